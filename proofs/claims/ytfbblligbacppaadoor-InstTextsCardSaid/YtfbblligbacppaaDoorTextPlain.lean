/- The plain side of inst.Text: what is right fits; the text. -/
import Derived.Test.YtfbblligbacppaaDoorWordsPlain
import Derived.Lib.Join
namespace Go.Proofs.YtfbblligbacppaaDoor

structure In.regs (i : In) : Prop where
  d : 0 ≤ i.d ∧ i.d ≤ 7
  s : 0 ≤ i.s ∧ i.s ≤ 7
  t : 0 ≤ i.t ∧ i.t ≤ 7
  u : 0 ≤ i.u ∧ i.u ≤ 7
  a : 0 ≤ i.a ∧ i.a ≤ 7
  q : -1 ≤ i.q ∧ i.q ≤ 1073741824

theorem stepR_back {places s : Int} {r r' : In} (h : stepR places s r = some r') (hp : places ≤ 1073741824) (hr : r'.regs) : r.regs := by
  unfold stepR at h
  obtain ⟨h1, h2, h3, h4, h5, h6⟩ := hr
  cases hf : fieldOff s with
  | some j =>
    rw [hf] at h
    dsimp only at h
    by_cases hb : r.get j < 0 ∨ 7 < r.get j
    · rw [if_pos hb] at h; cases h
    rw [if_neg hb] at h
    cases h
    have hb' : 0 ≤ r.get j ∧ r.get j ≤ 7 := by omega
    clear hb
    rcases fieldOff_cases hf with ⟨_, rfl⟩ | ⟨_, rfl⟩ | ⟨_, rfl⟩ | ⟨_, rfl⟩ | ⟨_, rfl⟩
    all_goals (simp only [In.put, In.get] at *; constructor <;> assumption)
  | none =>
    rw [hf] at h
    dsimp only at h
    by_cases c1 : s = 75
    · rw [if_pos c1] at h; cases h; constructor <;> assumption
    rw [if_neg c1] at h
    by_cases c2 : s = 66
    · rw [if_pos c2] at h
      by_cases b : 31 < r.k
      · rw [if_pos b] at h; cases h
      rw [if_neg b] at h; cases h; constructor <;> assumption
    rw [if_neg c2] at h
    by_cases c3 : s = 77
    · rw [if_pos c3] at h
      by_cases b : r.k < 1 ∨ 4 < r.k
      · rw [if_pos b] at h; cases h
      rw [if_neg b] at h; cases h; constructor <;> assumption
    rw [if_neg c3] at h
    by_cases c4 : s = 79
    · rw [if_pos c4] at h
      by_cases b : 3 < r.k
      · rw [if_pos b] at h; cases h
      rw [if_neg b] at h; cases h; constructor <;> assumption
    rw [if_neg c4] at h
    by_cases c5 : s = 87
    · rw [if_pos c5] at h
      by_cases b : 1 < r.k
      · rw [if_pos b] at h; cases h
      rw [if_neg b] at h
      by_cases b2 : r.t < 0 ∨ 7 < r.t ∨ r.q < -1 ∨ (r.q ≠ -1 ∧ places ≤ r.q)
      · rw [if_pos b2] at h; cases h
      rw [if_neg b2] at h; cases h
      exact ⟨h1, h2, by omega, h4, h5, by omega⟩
    rw [if_neg c5] at h
    by_cases c6 : s = 80
    · rw [if_pos c6] at h
      by_cases b : r.q < 0 ∨ places ≤ r.q
      · rw [if_pos b] at h; cases h
      rw [if_neg b] at h; cases h
      exact ⟨h1, h2, h3, h4, h5, by omega⟩
    rw [if_neg c6] at h
    cases h
    constructor <;> assumption
theorem foldR_back {places : Int} (hp : places ≤ 1073741824) : ∀ (l : List UInt8) (r r' : In), foldR places l r = some r' → r'.regs → r.regs
  | [], r, r', h, hr => by cases h; exact hr
  | c :: l, r, r', h, hr => by
    unfold foldR at h
    cases hs : stepR places (c.toNat : Int) r with
    | none => rw [hs] at h; cases h
    | some r1 =>
      rw [hs] at h
      exact stepR_back hs hp (foldR_back hp l r1 r' h hr)
theorem rightF_name {i : In} {places : Int} (h : rightF i places = true) : opName i.op ≠ [] := by
  intro e
  unfold rightF at h
  rw [if_pos e] at h
  cases h
theorem rightF_fold {i : In} {places : Int} (h : rightF i places = true) : foldR places (opHas i.op) { i with op := 0 } = some In.zero := by
  have hn := rightF_name h
  rw [rightF_eq _ _ hn] at h
  cases hf : foldR places (opHas i.op) { i with op := 0 } with
  | none => rw [hf] at h; cases h
  | some r => rw [hf] at h; rw [of_decide_eq_true h]
theorem rightF_fits {i : In} (h : rightF i 1073741824 = true) (hk : i.wk) : i.fits := by
  have hr := foldR_back (Int.le_refl _) _ _ _ (rightF_fold h) ⟨by decide, by decide, by decide, by decide, by decide, by decide⟩
  exact ⟨hr.d, hr.s, hr.t, hr.u, hr.a, hk, hr.q⟩
/-- The words of an instruction, and its text. -/
def allWords (i : In) : List (List UInt8) := opName i.op :: ((opHas i.op).map fun c => wordsF i (c.toNat : Int)).flatten
def textF (i : In) : List UInt8 := Go.Lib.join (allWords i) [32]
theorem wordsF_len (i : In) (s : Int) : (wordsF i s).length ≤ 4 := by
  unfold wordsF
  cases fieldOff s with
  | some j =>
    dsimp only
    by_cases h : j = 5
    · rw [if_pos h]; simp
    · rw [if_neg h]; simp
  | none =>
    dsimp only
    by_cases h : s = 80
    · rw [if_pos h]; simp
    by_cases h' : s = 87
    · rw [if_neg h, if_pos h']
      by_cases hq : i.q = -1
      · rw [if_pos hq]; simp
      · rw [if_neg hq]; simp
    rw [if_neg h, if_neg h']; simp
theorem wordsF_pos (i : In) (s : Int) : 1 ≤ (wordsF i s).length := by
  unfold wordsF
  cases fieldOff s with
  | some j =>
    dsimp only
    by_cases h : j = 5
    · rw [if_pos h]; simp
    · rw [if_neg h]; simp
  | none =>
    dsimp only
    by_cases h : s = 80
    · rw [if_pos h]; simp
    by_cases h' : s = 87
    · rw [if_neg h, if_pos h']; simp
    rw [if_neg h, if_neg h']; simp
theorem stepR_q {places s : Int} {r r' : In} (h : stepR places s r = some r') (h80 : s ≠ 80) (h87 : s ≠ 87) : r'.q = r.q := by
  unfold stepR at h
  cases hf : fieldOff s with
  | some j =>
    rw [hf] at h
    dsimp only at h
    by_cases hb : r.get j < 0 ∨ 7 < r.get j
    · rw [if_pos hb] at h; cases h
    rw [if_neg hb] at h
    cases h
    unfold In.put
    split <;> rfl
  | none =>
    rw [hf] at h
    dsimp only at h
    by_cases c1 : s = 75
    · rw [if_pos c1] at h; cases h; rfl
    rw [if_neg c1] at h
    by_cases c2 : s = 66
    · rw [if_pos c2] at h
      by_cases b : 31 < r.k
      · rw [if_pos b] at h; cases h
      rw [if_neg b] at h; cases h; rfl
    rw [if_neg c2] at h
    by_cases c3 : s = 77
    · rw [if_pos c3] at h
      by_cases b : r.k < 1 ∨ 4 < r.k
      · rw [if_pos b] at h; cases h
      rw [if_neg b] at h; cases h; rfl
    rw [if_neg c3] at h
    by_cases c4 : s = 79
    · rw [if_pos c4] at h
      by_cases b : 3 < r.k
      · rw [if_pos b] at h; cases h
      rw [if_neg b] at h; cases h; rfl
    rw [if_neg c4, if_neg h87, if_neg h80] at h
    cases h
    rfl
theorem foldR_q {places : Int} : ∀ (l : List UInt8) (r r' : In), foldR places l r = some r' → (80 : UInt8) ∈ l → (87 : UInt8) ∉ l → 0 ≤ r.q
  | [], _, _, _, h80, _ => by cases h80
  | c :: l, r, r', h, h80, h87 => by
    unfold foldR at h
    cases hs : stepR places (c.toNat : Int) r with
    | none => rw [hs] at h; cases h
    | some r1 =>
      rw [hs] at h
      by_cases hc : c = 80
      · subst hc
        rw [show ((80 : UInt8).toNat : Int) = 80 from rfl, stepR_P] at hs
        by_cases b : r.q < 0 ∨ places ≤ r.q
        · rw [if_pos b] at hs; cases hs
        · omega
      · have h80' : (80 : UInt8) ∈ l := by
          cases h80 with
          | head => exact absurd rfl hc
          | tail _ h => exact h
        have h87' : (87 : UInt8) ∉ l := fun x => h87 (List.mem_cons_of_mem _ x)
        have hc87 : c ≠ 87 := fun e => h87 (by rw [e]; exact List.mem_cons_self ..)
        have := foldR_q l r1 r' h h80' h87'
        have e := stepR_q hs (fun e => hc (UInt8.toNat_inj.1 (Int.ofNat_inj.1 e))) (fun e => hc87 (UInt8.toNat_inj.1 (Int.ofNat_inj.1 e)))
        omega
theorem ite_mem {P : List UInt8 → Prop} {c : Prop} [Decidable c] {a b : List UInt8} (ha : P a) (hb : P b) : P (if c then a else b) := by split <;> assumption
theorem opHas_not_both (op : Int) : ¬ ((80 : UInt8) ∈ opHas op ∧ (87 : UInt8) ∈ opHas op) := by
  unfold opHas
  repeat (refine ite_mem (P := fun l => ¬ ((80 : UInt8) ∈ l ∧ (87 : UInt8) ∈ l)) (by decide) ?_)
  decide
theorem rightF_q {i : In} (h : rightF i 1073741824 = true) (h80 : (80 : UInt8) ∈ opHas i.op) : 0 ≤ i.q :=
  foldR_q (opHas i.op) { i with op := 0 } In.zero (rightF_fold h) h80 (fun h87 => opHas_not_both i.op ⟨h80, h87⟩)
/-- Text of any instruction: its text and 0; or nothing, and ErrArg. -/
def textR (i : In) : List UInt8 × Int := if rightF i 1073741824 = true then (textF i, 0) else ([], 1)
end Go.Proofs.YtfbblligbacppaaDoor

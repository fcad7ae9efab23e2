/- The plain side: when an instruction is right, number by number. -/
import Derived.Test.YtfbblligbacppaaDoorRightPlain
namespace Go.Proofs.YtfbblligbacppaaDoor
set_option linter.unusedVariables false
set_option linter.unusedSimpArgs false

theorem rightF_1 (d s t u a k q places : Int) (hd : 0 ≤ d ∧ d ≤ 7) (hs : 0 ≤ s ∧ s ≤ 7) (ht : 0 ≤ t ∧ t ≤ 7) (hu : 0 ≤ u ∧ u ≤ 7) (ha : 0 ≤ a ∧ a ≤ 7) (hk : 0 ≤ k ∧ k ≤ 4294967295) :
    rightF ⟨1, d, s, t, u, a, k, q⟩ places = (decide ((⟨1, d, 0, 0, 0, 0, k, 0⟩ : In) = ⟨1, d, s, t, u, a, k, q⟩)) := by
  rw [Bool.eq_iff_iff, rightF_eq _ _ (by show opName 1 ≠ []; decide)]
  show finR (foldR places [68, 75] ⟨0, d, s, t, u, a, k, q⟩) = true ↔ _
  have n_d : ¬ (d < 0 ∨ 7 < d) := by omega
  simp only [foldR, stepR, fieldOff, In.get, In.put, UInt8.reduceToNat]
  simp [n_d, finR, In.zero]
  try omega

theorem rightF_2 (d s t u a k q places : Int) (hd : 0 ≤ d ∧ d ≤ 7) (hs : 0 ≤ s ∧ s ≤ 7) (ht : 0 ≤ t ∧ t ≤ 7) (hu : 0 ≤ u ∧ u ≤ 7) (ha : 0 ≤ a ∧ a ≤ 7) (hk : 0 ≤ k ∧ k ≤ 4294967295) :
    rightF ⟨2, d, s, t, u, a, k, q⟩ places = (decide ((⟨2, d, s, 0, 0, 0, 0, 0⟩ : In) = ⟨2, d, s, t, u, a, k, q⟩)) := by
  rw [Bool.eq_iff_iff, rightF_eq _ _ (by show opName 2 ≠ []; decide)]
  show finR (foldR places [68, 83] ⟨0, d, s, t, u, a, k, q⟩) = true ↔ _
  have n_d : ¬ (d < 0 ∨ 7 < d) := by omega
  have n_s : ¬ (s < 0 ∨ 7 < s) := by omega
  simp only [foldR, stepR, fieldOff, In.get, In.put, UInt8.reduceToNat]
  simp [n_d, n_s, finR, In.zero]
  try omega

theorem rightF_3 (d s t u a k q places : Int) (hd : 0 ≤ d ∧ d ≤ 7) (hs : 0 ≤ s ∧ s ≤ 7) (ht : 0 ≤ t ∧ t ≤ 7) (hu : 0 ≤ u ∧ u ≤ 7) (ha : 0 ≤ a ∧ a ≤ 7) (hk : 0 ≤ k ∧ k ≤ 4294967295) :
    rightF ⟨3, d, s, t, u, a, k, q⟩ places = (decide ((⟨3, d, s, 0, 0, 0, k, 0⟩ : In) = ⟨3, d, s, t, u, a, k, q⟩)) := by
  rw [Bool.eq_iff_iff, rightF_eq _ _ (by show opName 3 ≠ []; decide)]
  show finR (foldR places [68, 83, 75] ⟨0, d, s, t, u, a, k, q⟩) = true ↔ _
  have n_d : ¬ (d < 0 ∨ 7 < d) := by omega
  have n_s : ¬ (s < 0 ∨ 7 < s) := by omega
  simp only [foldR, stepR, fieldOff, In.get, In.put, UInt8.reduceToNat]
  simp [n_d, n_s, finR, In.zero]
  try omega

theorem rightF_4 (d s t u a k q places : Int) (hd : 0 ≤ d ∧ d ≤ 7) (hs : 0 ≤ s ∧ s ≤ 7) (ht : 0 ≤ t ∧ t ≤ 7) (hu : 0 ≤ u ∧ u ≤ 7) (ha : 0 ≤ a ∧ a ≤ 7) (hk : 0 ≤ k ∧ k ≤ 4294967295) :
    rightF ⟨4, d, s, t, u, a, k, q⟩ places = (decide ((⟨4, d, s, 0, 0, 0, k, 0⟩ : In) = ⟨4, d, s, t, u, a, k, q⟩)) := by
  rw [Bool.eq_iff_iff, rightF_eq _ _ (by show opName 4 ≠ []; decide)]
  show finR (foldR places [68, 83, 75] ⟨0, d, s, t, u, a, k, q⟩) = true ↔ _
  have n_d : ¬ (d < 0 ∨ 7 < d) := by omega
  have n_s : ¬ (s < 0 ∨ 7 < s) := by omega
  simp only [foldR, stepR, fieldOff, In.get, In.put, UInt8.reduceToNat]
  simp [n_d, n_s, finR, In.zero]
  try omega

theorem rightF_5 (d s t u a k q places : Int) (hd : 0 ≤ d ∧ d ≤ 7) (hs : 0 ≤ s ∧ s ≤ 7) (ht : 0 ≤ t ∧ t ≤ 7) (hu : 0 ≤ u ∧ u ≤ 7) (ha : 0 ≤ a ∧ a ≤ 7) (hk : 0 ≤ k ∧ k ≤ 4294967295) :
    rightF ⟨5, d, s, t, u, a, k, q⟩ places = (!decide (31 < k) && decide ((⟨5, d, s, 0, 0, 0, k, 0⟩ : In) = ⟨5, d, s, t, u, a, k, q⟩)) := by
  rw [Bool.eq_iff_iff, rightF_eq _ _ (by show opName 5 ≠ []; decide)]
  show finR (foldR places [68, 83, 66] ⟨0, d, s, t, u, a, k, q⟩) = true ↔ _
  have n_d : ¬ (d < 0 ∨ 7 < d) := by omega
  have n_s : ¬ (s < 0 ∨ 7 < s) := by omega
  simp only [foldR, stepR, fieldOff, In.get, In.put, UInt8.reduceToNat]
  by_cases hc : 31 < k
  · simp [n_d, n_s, hc, finR, In.zero]
    try omega
  · simp [n_d, n_s, hc, finR, In.zero]
    try omega

theorem rightF_6 (d s t u a k q places : Int) (hd : 0 ≤ d ∧ d ≤ 7) (hs : 0 ≤ s ∧ s ≤ 7) (ht : 0 ≤ t ∧ t ≤ 7) (hu : 0 ≤ u ∧ u ≤ 7) (ha : 0 ≤ a ∧ a ≤ 7) (hk : 0 ≤ k ∧ k ≤ 4294967295) :
    rightF ⟨6, d, s, t, u, a, k, q⟩ places = (!decide (31 < k) && decide ((⟨6, d, s, 0, 0, 0, k, 0⟩ : In) = ⟨6, d, s, t, u, a, k, q⟩)) := by
  rw [Bool.eq_iff_iff, rightF_eq _ _ (by show opName 6 ≠ []; decide)]
  show finR (foldR places [68, 83, 66] ⟨0, d, s, t, u, a, k, q⟩) = true ↔ _
  have n_d : ¬ (d < 0 ∨ 7 < d) := by omega
  have n_s : ¬ (s < 0 ∨ 7 < s) := by omega
  simp only [foldR, stepR, fieldOff, In.get, In.put, UInt8.reduceToNat]
  by_cases hc : 31 < k
  · simp [n_d, n_s, hc, finR, In.zero]
    try omega
  · simp [n_d, n_s, hc, finR, In.zero]
    try omega

theorem rightF_7 (d s t u a k q places : Int) (hd : 0 ≤ d ∧ d ≤ 7) (hs : 0 ≤ s ∧ s ≤ 7) (ht : 0 ≤ t ∧ t ≤ 7) (hu : 0 ≤ u ∧ u ≤ 7) (ha : 0 ≤ a ∧ a ≤ 7) (hk : 0 ≤ k ∧ k ≤ 4294967295) :
    rightF ⟨7, d, s, t, u, a, k, q⟩ places = (decide ((⟨7, d, s, t, 0, 0, 0, 0⟩ : In) = ⟨7, d, s, t, u, a, k, q⟩)) := by
  rw [Bool.eq_iff_iff, rightF_eq _ _ (by show opName 7 ≠ []; decide)]
  show finR (foldR places [68, 83, 84] ⟨0, d, s, t, u, a, k, q⟩) = true ↔ _
  have n_d : ¬ (d < 0 ∨ 7 < d) := by omega
  have n_s : ¬ (s < 0 ∨ 7 < s) := by omega
  have n_t : ¬ (t < 0 ∨ 7 < t) := by omega
  simp only [foldR, stepR, fieldOff, In.get, In.put, UInt8.reduceToNat]
  simp [n_d, n_s, n_t, finR, In.zero]
  try omega

theorem rightF_8 (d s t u a k q places : Int) (hd : 0 ≤ d ∧ d ≤ 7) (hs : 0 ≤ s ∧ s ≤ 7) (ht : 0 ≤ t ∧ t ≤ 7) (hu : 0 ≤ u ∧ u ≤ 7) (ha : 0 ≤ a ∧ a ≤ 7) (hk : 0 ≤ k ∧ k ≤ 4294967295) :
    rightF ⟨8, d, s, t, u, a, k, q⟩ places = (!decide (q < 0) && decide ((⟨8, 0, s, t, 0, 0, 0, q⟩ : In) = ⟨8, d, s, t, u, a, k, q⟩) && decide (q < places)) := by
  rw [Bool.eq_iff_iff, rightF_eq _ _ (by show opName 8 ≠ []; decide)]
  show finR (foldR places [83, 84, 80] ⟨0, d, s, t, u, a, k, q⟩) = true ↔ _
  have n_s : ¬ (s < 0 ∨ 7 < s) := by omega
  have n_t : ¬ (t < 0 ∨ 7 < t) := by omega
  simp only [foldR, stepR, fieldOff, In.get, In.put, UInt8.reduceToNat]
  by_cases hc : q < 0 ∨ places ≤ q
  · simp [n_s, n_t, hc, finR, In.zero]
    try omega
  · simp [n_s, n_t, hc, finR, In.zero]
    try omega

theorem rightF_9 (d s t u a k q places : Int) (hd : 0 ≤ d ∧ d ≤ 7) (hs : 0 ≤ s ∧ s ≤ 7) (ht : 0 ≤ t ∧ t ≤ 7) (hu : 0 ≤ u ∧ u ≤ 7) (ha : 0 ≤ a ∧ a ≤ 7) (hk : 0 ≤ k ∧ k ≤ 4294967295) :
    rightF ⟨9, d, s, t, u, a, k, q⟩ places = (!decide (q < 0) && decide ((⟨9, 0, s, t, 0, 0, 0, q⟩ : In) = ⟨9, d, s, t, u, a, k, q⟩) && decide (q < places)) := by
  rw [Bool.eq_iff_iff, rightF_eq _ _ (by show opName 9 ≠ []; decide)]
  show finR (foldR places [83, 84, 80] ⟨0, d, s, t, u, a, k, q⟩) = true ↔ _
  have n_s : ¬ (s < 0 ∨ 7 < s) := by omega
  have n_t : ¬ (t < 0 ∨ 7 < t) := by omega
  simp only [foldR, stepR, fieldOff, In.get, In.put, UInt8.reduceToNat]
  by_cases hc : q < 0 ∨ places ≤ q
  · simp [n_s, n_t, hc, finR, In.zero]
    try omega
  · simp [n_s, n_t, hc, finR, In.zero]
    try omega

theorem rightF_10 (d s t u a k q places : Int) (hd : 0 ≤ d ∧ d ≤ 7) (hs : 0 ≤ s ∧ s ≤ 7) (ht : 0 ≤ t ∧ t ≤ 7) (hu : 0 ≤ u ∧ u ≤ 7) (ha : 0 ≤ a ∧ a ≤ 7) (hk : 0 ≤ k ∧ k ≤ 4294967295) :
    rightF ⟨10, d, s, t, u, a, k, q⟩ places = (!decide (q < 0) && decide ((⟨10, 0, 0, 0, 0, 0, 0, q⟩ : In) = ⟨10, d, s, t, u, a, k, q⟩) && decide (q < places)) := by
  rw [Bool.eq_iff_iff, rightF_eq _ _ (by show opName 10 ≠ []; decide)]
  show finR (foldR places [80] ⟨0, d, s, t, u, a, k, q⟩) = true ↔ _
  simp only [foldR, stepR, fieldOff, In.get, In.put, UInt8.reduceToNat]
  by_cases hc : q < 0 ∨ places ≤ q
  · simp [hc, finR, In.zero]
    try omega
  · simp [hc, finR, In.zero]
    try omega

theorem rightF_11 (d s t u a k q places : Int) (hd : 0 ≤ d ∧ d ≤ 7) (hs : 0 ≤ s ∧ s ≤ 7) (ht : 0 ≤ t ∧ t ≤ 7) (hu : 0 ≤ u ∧ u ≤ 7) (ha : 0 ≤ a ∧ a ≤ 7) (hk : 0 ≤ k ∧ k ≤ 4294967295) :
    rightF ⟨11, d, s, t, u, a, k, q⟩ places = (decide ((⟨11, d, 0, 0, 0, 0, 0, 0⟩ : In) = ⟨11, d, s, t, u, a, k, q⟩)) := by
  rw [Bool.eq_iff_iff, rightF_eq _ _ (by show opName 11 ≠ []; decide)]
  show finR (foldR places [68] ⟨0, d, s, t, u, a, k, q⟩) = true ↔ _
  have n_d : ¬ (d < 0 ∨ 7 < d) := by omega
  simp only [foldR, stepR, fieldOff, In.get, In.put, UInt8.reduceToNat]
  simp [n_d, finR, In.zero]
  try omega

theorem rightF_12 (d s t u a k q places : Int) (hd : 0 ≤ d ∧ d ≤ 7) (hs : 0 ≤ s ∧ s ≤ 7) (ht : 0 ≤ t ∧ t ≤ 7) (hu : 0 ≤ u ∧ u ≤ 7) (ha : 0 ≤ a ∧ a ≤ 7) (hk : 0 ≤ k ∧ k ≤ 4294967295) :
    rightF ⟨12, d, s, t, u, a, k, q⟩ places = (!decide (k < 1) && !decide (4 < k) && decide ((⟨12, 0, 0, 0, 0, 0, k, 0⟩ : In) = ⟨12, d, s, t, u, a, k, q⟩)) := by
  rw [Bool.eq_iff_iff, rightF_eq _ _ (by show opName 12 ≠ []; decide)]
  show finR (foldR places [77] ⟨0, d, s, t, u, a, k, q⟩) = true ↔ _
  simp only [foldR, stepR, fieldOff, In.get, In.put, UInt8.reduceToNat]
  by_cases hc : k < 1 ∨ 4 < k
  · simp [hc, finR, In.zero]
    try omega
  · simp [hc, finR, In.zero]
    try omega

theorem rightF_13 (d s t u a k q places : Int) (hd : 0 ≤ d ∧ d ≤ 7) (hs : 0 ≤ s ∧ s ≤ 7) (ht : 0 ≤ t ∧ t ≤ 7) (hu : 0 ≤ u ∧ u ≤ 7) (ha : 0 ≤ a ∧ a ≤ 7) (hk : 0 ≤ k ∧ k ≤ 4294967295) :
    rightF ⟨13, d, s, t, u, a, k, q⟩ places = (!decide (3 < k) && decide ((⟨13, 0, 0, 0, 0, 0, k, 0⟩ : In) = ⟨13, d, s, t, u, a, k, q⟩)) := by
  rw [Bool.eq_iff_iff, rightF_eq _ _ (by show opName 13 ≠ []; decide)]
  show finR (foldR places [79] ⟨0, d, s, t, u, a, k, q⟩) = true ↔ _
  simp only [foldR, stepR, fieldOff, In.get, In.put, UInt8.reduceToNat]
  by_cases hc : 3 < k
  · simp [hc, finR, In.zero]
    try omega
  · simp [hc, finR, In.zero]
    try omega

theorem rightF_16 (d s t u a k q places : Int) (hd : 0 ≤ d ∧ d ≤ 7) (hs : 0 ≤ s ∧ s ≤ 7) (ht : 0 ≤ t ∧ t ≤ 7) (hu : 0 ≤ u ∧ u ≤ 7) (ha : 0 ≤ a ∧ a ≤ 7) (hk : 0 ≤ k ∧ k ≤ 4294967295) :
    rightF ⟨16, d, s, t, u, a, k, q⟩ places = (decide ((⟨16, d, s, 0, 0, a, 0, 0⟩ : In) = ⟨16, d, s, t, u, a, k, q⟩)) := by
  rw [Bool.eq_iff_iff, rightF_eq _ _ (by show opName 16 ≠ []; decide)]
  show finR (foldR places [68, 65, 83] ⟨0, d, s, t, u, a, k, q⟩) = true ↔ _
  have n_d : ¬ (d < 0 ∨ 7 < d) := by omega
  have n_a : ¬ (a < 0 ∨ 7 < a) := by omega
  have n_s : ¬ (s < 0 ∨ 7 < s) := by omega
  simp only [foldR, stepR, fieldOff, In.get, In.put, UInt8.reduceToNat]
  simp [n_d, n_a, n_s, finR, In.zero]
  try omega

theorem rightF_17 (d s t u a k q places : Int) (hd : 0 ≤ d ∧ d ≤ 7) (hs : 0 ≤ s ∧ s ≤ 7) (ht : 0 ≤ t ∧ t ≤ 7) (hu : 0 ≤ u ∧ u ≤ 7) (ha : 0 ≤ a ∧ a ≤ 7) (hk : 0 ≤ k ∧ k ≤ 4294967295) :
    rightF ⟨17, d, s, t, u, a, k, q⟩ places = (decide ((⟨17, 0, s, t, 0, a, 0, 0⟩ : In) = ⟨17, d, s, t, u, a, k, q⟩)) := by
  rw [Bool.eq_iff_iff, rightF_eq _ _ (by show opName 17 ≠ []; decide)]
  show finR (foldR places [65, 83, 84] ⟨0, d, s, t, u, a, k, q⟩) = true ↔ _
  have n_a : ¬ (a < 0 ∨ 7 < a) := by omega
  have n_s : ¬ (s < 0 ∨ 7 < s) := by omega
  have n_t : ¬ (t < 0 ∨ 7 < t) := by omega
  simp only [foldR, stepR, fieldOff, In.get, In.put, UInt8.reduceToNat]
  simp [n_a, n_s, n_t, finR, In.zero]
  try omega

theorem rightF_18 (d s t u a k q places : Int) (hd : 0 ≤ d ∧ d ≤ 7) (hs : 0 ≤ s ∧ s ≤ 7) (ht : 0 ≤ t ∧ t ≤ 7) (hu : 0 ≤ u ∧ u ≤ 7) (ha : 0 ≤ a ∧ a ≤ 7) (hk : 0 ≤ k ∧ k ≤ 4294967295) :
    rightF ⟨18, d, s, t, u, a, k, q⟩ places = (decide ((⟨18, d, s, t, 0, a, 0, 0⟩ : In) = ⟨18, d, s, t, u, a, k, q⟩)) := by
  rw [Bool.eq_iff_iff, rightF_eq _ _ (by show opName 18 ≠ []; decide)]
  show finR (foldR places [68, 65, 83, 84] ⟨0, d, s, t, u, a, k, q⟩) = true ↔ _
  have n_d : ¬ (d < 0 ∨ 7 < d) := by omega
  have n_a : ¬ (a < 0 ∨ 7 < a) := by omega
  have n_s : ¬ (s < 0 ∨ 7 < s) := by omega
  have n_t : ¬ (t < 0 ∨ 7 < t) := by omega
  simp only [foldR, stepR, fieldOff, In.get, In.put, UInt8.reduceToNat]
  simp [n_d, n_a, n_s, n_t, finR, In.zero]
  try omega

theorem rightF_19 (d s t u a k q places : Int) (hd : 0 ≤ d ∧ d ≤ 7) (hs : 0 ≤ s ∧ s ≤ 7) (ht : 0 ≤ t ∧ t ≤ 7) (hu : 0 ≤ u ∧ u ≤ 7) (ha : 0 ≤ a ∧ a ≤ 7) (hk : 0 ≤ k ∧ k ≤ 4294967295) :
    rightF ⟨19, d, s, t, u, a, k, q⟩ places = (decide ((⟨19, d, s, t, u, a, 0, 0⟩ : In) = ⟨19, d, s, t, u, a, k, q⟩)) := by
  rw [Bool.eq_iff_iff, rightF_eq _ _ (by show opName 19 ≠ []; decide)]
  show finR (foldR places [68, 65, 83, 84, 85] ⟨0, d, s, t, u, a, k, q⟩) = true ↔ _
  have n_d : ¬ (d < 0 ∨ 7 < d) := by omega
  have n_a : ¬ (a < 0 ∨ 7 < a) := by omega
  have n_s : ¬ (s < 0 ∨ 7 < s) := by omega
  have n_t : ¬ (t < 0 ∨ 7 < t) := by omega
  have n_u : ¬ (u < 0 ∨ 7 < u) := by omega
  simp only [foldR, stepR, fieldOff, In.get, In.put, UInt8.reduceToNat]
  simp [n_d, n_a, n_s, n_t, n_u, finR, In.zero]
  try omega

theorem rightF_20 (d s t u a k q places : Int) (hd : 0 ≤ d ∧ d ≤ 7) (hs : 0 ≤ s ∧ s ≤ 7) (ht : 0 ≤ t ∧ t ≤ 7) (hu : 0 ≤ u ∧ u ≤ 7) (ha : 0 ≤ a ∧ a ≤ 7) (hk : 0 ≤ k ∧ k ≤ 4294967295) :
    rightF ⟨20, d, s, t, u, a, k, q⟩ places = (decide ((⟨20, d, s, 0, 0, a, k, 0⟩ : In) = ⟨20, d, s, t, u, a, k, q⟩)) := by
  rw [Bool.eq_iff_iff, rightF_eq _ _ (by show opName 20 ≠ []; decide)]
  show finR (foldR places [68, 65, 83, 75] ⟨0, d, s, t, u, a, k, q⟩) = true ↔ _
  have n_d : ¬ (d < 0 ∨ 7 < d) := by omega
  have n_a : ¬ (a < 0 ∨ 7 < a) := by omega
  have n_s : ¬ (s < 0 ∨ 7 < s) := by omega
  simp only [foldR, stepR, fieldOff, In.get, In.put, UInt8.reduceToNat]
  simp [n_d, n_a, n_s, finR, In.zero]
  try omega

theorem rightF_21 (d s t u a k q places : Int) (hd : 0 ≤ d ∧ d ≤ 7) (hs : 0 ≤ s ∧ s ≤ 7) (ht : 0 ≤ t ∧ t ≤ 7) (hu : 0 ≤ u ∧ u ≤ 7) (ha : 0 ≤ a ∧ a ≤ 7) (hk : 0 ≤ k ∧ k ≤ 4294967295) :
    rightF ⟨21, d, s, t, u, a, k, q⟩ places = (!decide (1 < k) && !decide (q < -1) && decide ((⟨21, d, s, t, 0, a, k, q⟩ : In) = ⟨21, d, s, t, u, a, k, q⟩) && (decide (q = -1) || decide (q < places))) := by
  rw [Bool.eq_iff_iff, rightF_eq _ _ (by show opName 21 ≠ []; decide)]
  show finR (foldR places [68, 65, 83, 87] ⟨0, d, s, t, u, a, k, q⟩) = true ↔ _
  have n_d : ¬ (d < 0 ∨ 7 < d) := by omega
  have n_a : ¬ (a < 0 ∨ 7 < a) := by omega
  have n_s : ¬ (s < 0 ∨ 7 < s) := by omega
  simp only [foldR, stepR, fieldOff, In.get, In.put, UInt8.reduceToNat]
  by_cases hc : 1 < k
  · simp [n_d, n_a, n_s, hc, finR, In.zero]
    try omega
  · by_cases hd2 : t < 0 ∨ 7 < t ∨ q < -1 ∨ (¬q = -1 ∧ places ≤ q)
    · simp [n_d, n_a, n_s, hc, hd2, finR, In.zero]
      try omega
    · simp [n_d, n_a, n_s, hc, hd2, finR, In.zero]
      try omega

theorem rightF_22 (d s t u a k q places : Int) (hd : 0 ≤ d ∧ d ≤ 7) (hs : 0 ≤ s ∧ s ≤ 7) (ht : 0 ≤ t ∧ t ≤ 7) (hu : 0 ≤ u ∧ u ≤ 7) (ha : 0 ≤ a ∧ a ≤ 7) (hk : 0 ≤ k ∧ k ≤ 4294967295) :
    rightF ⟨22, d, s, t, u, a, k, q⟩ places = (decide ((⟨22, d, 0, 0, 0, 0, 0, 0⟩ : In) = ⟨22, d, s, t, u, a, k, q⟩)) := by
  rw [Bool.eq_iff_iff, rightF_eq _ _ (by show opName 22 ≠ []; decide)]
  show finR (foldR places [68] ⟨0, d, s, t, u, a, k, q⟩) = true ↔ _
  have n_d : ¬ (d < 0 ∨ 7 < d) := by omega
  simp only [foldR, stepR, fieldOff, In.get, In.put, UInt8.reduceToNat]
  simp [n_d, finR, In.zero]
  try omega

theorem rightF_23 (d s t u a k q places : Int) (hd : 0 ≤ d ∧ d ≤ 7) (hs : 0 ≤ s ∧ s ≤ 7) (ht : 0 ≤ t ∧ t ≤ 7) (hu : 0 ≤ u ∧ u ≤ 7) (ha : 0 ≤ a ∧ a ≤ 7) (hk : 0 ≤ k ∧ k ≤ 4294967295) :
    rightF ⟨23, d, s, t, u, a, k, q⟩ places = (decide ((⟨23, 0, s, 0, 0, 0, 0, 0⟩ : In) = ⟨23, d, s, t, u, a, k, q⟩)) := by
  rw [Bool.eq_iff_iff, rightF_eq _ _ (by show opName 23 ≠ []; decide)]
  show finR (foldR places [83] ⟨0, d, s, t, u, a, k, q⟩) = true ↔ _
  have n_s : ¬ (s < 0 ∨ 7 < s) := by omega
  simp only [foldR, stepR, fieldOff, In.get, In.put, UInt8.reduceToNat]
  simp [n_s, finR, In.zero]
  try omega

end Go.Proofs.YtfbblligbacppaaDoor

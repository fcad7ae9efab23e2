/- Parts: RegionLate. -/
import Derived.OrdersHeld
import Derived.Deep.RegionHeld3
/- A region whose loads may be taken first although a later store of the same region writes their cell: S need hold only as long as none of the late operations D has come up, and each of D waits (directly or through others) for what is taken. -/
namespace Go
set_option linter.unusedVariables false

section
variable {P : Program} {ops : Array Oper} {Q : Exit → Act → World → Prop} {md : Region.Mode} {S : World → Prop} {D : List Nat}

def noLate (D : List Nat) (listed : Array Bool) : Bool := D.all fun d => !listed.getD d false
/-- Does operation d wait for i? -/
def waitsFor (md : Region.Mode) (ops : Array Oper) (i : Nat) : Nat → Nat → Bool
 | 0, d => d == i
 | n + 1, d => d == i || ((ops[d]?).map (·.after.any fun e => Region.binds md e && waitsFor md ops i n e.on)).getD false
/-- What has come up has all that it waits for. -/
def shutDown (md : Region.Mode) (ops : Array Oper) (listed : Array Bool) : Bool :=
 (List.range ops.size).all fun j => !listed.getD j false || ((ops[j]?).map (·.after.all fun e => !Region.binds md e || listed.getD e.on false)).getD false

def ShutDown (md : Region.Mode) (ops : Array Oper) (listed : Array Bool) : Prop :=
 ∀ j o, ops[j]? = some o → listed.getD j false = true → ∀ e ∈ o.after, Region.binds md e = true → listed.getD e.on false = true
theorem shutDown_spec {listed : Array Bool} (h : shutDown md ops listed = true) : ShutDown md ops listed := by
 intro j o ho hj e he hb
 unfold shutDown at h
 rw [List.all_eq_true] at h
 have h1 := h j (List.mem_range.2 (Array.getElem?_eq_some_iff.1 ho).1)
 rw [hj, ho] at h1
 have h2 : (o.after.all fun e => !Region.binds md e || listed.getD e.on false) = true := by simpa using h1
 have h3 := Array.all_eq_true_iff_forall_mem.1 h2 e he
 rw [hb] at h3
 simpa using h3
theorem ShutDown.step {listed : Array Bool} {i : Nat} (h : ShutDown md ops listed) (hr : i ∈ Region.ready md ops listed) : ShutDown md ops (listed.setIfInBounds i true) := by
 intro j o ho hj e he hb
 obtain ⟨_, oi, hoi, hall⟩ := mem_ready.1 hr
 by_cases hij : i = j
 ·subst hij
  rw [hoi] at ho
  cases ho
  exact getD_set_true (hall e he hb)
 ·rw [getD_set_ne false hij] at hj
  exact getD_set_true (h j o ho hj e he hb)
theorem waitsFor_spec {listed : Array Bool} {i : Nat} (h : ShutDown md ops listed) : ∀ n d, waitsFor md ops i n d = true → listed.getD d false = true → listed.getD i false = true
 | 0, d, hw, hd => by
  have : d = i := by simpa [waitsFor] using hw
  subst this
  exact hd
 | n + 1, d, hw, hd => by
  unfold waitsFor at hw
  rcases Bool.or_eq_true .. ▸ hw with h1 | h1
  ·have : d = i := by simpa using h1
   subst this
   exact hd
  ·cases ho : ops[d]? with
   | none => rw [ho] at h1; simp at h1
   | some o =>
    rw [ho] at h1
    have h2 : (o.after.any fun e => Region.binds md e && waitsFor md ops i n e.on) = true := by simpa using h1
    obtain ⟨e, he, hb⟩ := Array.any_eq_true'.1 h2
    rw [Bool.and_eq_true] at hb
    exact waitsFor_spec h n e.on hb.2 (h d o ho hd e he hb.1)
theorem not_ready_late {listed : Array Bool} {i : Nat} (h : ShutDown md ops listed) (hi : listed.getD i false = false) (n d : Nat) (hw : waitsFor md ops i n d = true) (hne : d ≠ i) :
  d ∉ Region.ready md ops listed := fun hr => by
 obtain ⟨_, o, ho, hall⟩ := mem_ready.1 hr
 cases n with
 | zero => exact hne (by simpa [waitsFor] using hw)
 | succ n =>
  unfold waitsFor at hw
  rcases Bool.or_eq_true .. ▸ hw with h1 | h1
  ·exact hne (by simpa using h1)
  ·rw [ho] at h1
   have h2 : (o.after.any fun e => Region.binds md e && waitsFor md ops i n e.on) = true := by simpa using h1
   obtain ⟨e, he, hb⟩ := Array.any_eq_true'.1 h2
   rw [Bool.and_eq_true] at hb
   have := waitsFor_spec h n e.on hb.2 (hall e he hb.1)
   rw [hi] at this
   cases this

/-- Whatever order is picked from here on, and S holds behind every operation that is carried out, until one of D has come up. -/
def wpAnyL (P : Program) (md : Region.Mode) (ops : Array Oper) (Q : Exit → Act → World → Prop) (S : World → Prop) (D : List Nat) : Nat → Array Bool → Act → World → Prop
 | 0, listed, a, w => Region.ready md ops listed = [] ∧ Q .normal a w
 | fuel + 1, listed, a, w =>
  (Region.ready md ops listed = [] → Q .normal a w) ∧
  ∀ i ∈ Region.ready md ops listed, wpOp P ops Q i (fun a' w' => (noLate D (listed.setIfInBounds i true) = true → S w') ∧ wpAnyL P md ops Q S D fuel (listed.setIfInBounds i true) a' w') a w
theorem wpAny_of_late : ∀ (fuel : Nat) (listed : Array Bool) (a : Act) (w : World), wpAnyL P md ops Q S D fuel listed a w → wpAny P md ops Q fuel listed a w
 | 0, _, _, _, h => h
 | fuel + 1, _, _, _, h => ⟨h.1, fun i hi => wpOp_mono (fun a' w' h' => wpAny_of_late fuel _ a' w' h'.2) (h.2 i hi)⟩
theorem ready_false {listed : Array Bool} {i : Nat} (hr : i ∈ Region.ready md ops listed) : listed.getD i false = false := by
 have h0 := (mem_ready.1 hr).1
 rcases Nat.lt_or_ge i listed.size with h' | h'
 ·simp [h'] at h0 ⊢; exact h0
 ·simp [Array.getElem?_eq_none h'] at h0
theorem noLate_set {listed : Array Bool} {i : Nat} (hi : i ∉ D) (h : noLate D listed = true) : noLate D (listed.setIfInBounds i true) = true := by
 unfold noLate at *
 rw [List.all_eq_true] at *
 intro d hd
 rw [getD_set_ne false (fun e : i = d => hi (by rw [e]; exact hd))]
 exact h d hd

theorem wpAnyL_first {i : Nat} {oi : Oper} {v : Value} (hi : ops[i]? = some oi) (hsel : ∀ (j : Nat) (o : Oper) cs b, ops[j]? = some o → o.op ≠ .select cs b)
  (hQ : ∀ c a w, Q (.panic c) (a.put oi.dst v) w → Q (.panic c) a w) (hD : ∀ d ∈ D, d ≠ i ∧ waitsFor md ops i ops.size d = true) :
  ∀ (fuel : Nat) (listed : Array Bool) (a : Act) (w : World),
   (∀ j oj, ops[j]? = some oj → j ≠ i → listed.getD j true = false → (∀ e ∈ oj.after, Region.binds md e = true → e.on ≠ i) → oi.apart ops oj = true) →
   ShutDown md ops listed → i ∈ Region.ready md ops listed → YieldsIf P ops S oi v a → S w →
   wpAnyL P md ops Q S D fuel (listed.setIfInBounds i true) (a.put oi.dst v) w → wpAnyL P md ops Q S D (fuel + 1) listed a w := by
 intro fuel
 induction fuel with
 | zero =>
  intro listed a w _ hsd hr hy hS H
  refine ⟨fun h => (by rw [h] at hr; cases hr), fun j hj => ?_⟩
  by_cases hji : j = i
  ·subst hji; exact hy.wpOp hi hS ⟨fun _ => hS, H⟩
  ·have := ready_mono hj hji
   rw [H.1] at this
   cases this
 | succ fuel ih =>
  intro listed a w hfree hsd hr hy hS H
  refine ⟨fun h => (by rw [h] at hr; cases hr), fun j hj => ?_⟩
  by_cases hji : j = i
  ·subst hji; exact hy.wpOp hi hS ⟨fun _ => hS, H⟩
  ·have h1 := H.2 j (ready_mono hj hji)
   obtain ⟨hjun, oj, hoj, hall⟩ := mem_ready.1 hj
   have hnot : ∀ e ∈ oj.after, Region.binds md e = true → e.on ≠ i := fun e he hb heq => by
    have h1 := hall e he hb
    rw [heq, ready_false hr] at h1
    cases h1
   have h2 := wpOp_putIf hoj (hfree j oj hoj hji hjun hnot) (fun cs b => hsel i oi cs b hi) (fun cs b => hsel j oj cs b hoj) hQ hy h1
   have hfree' : ∀ k ok, ops[k]? = some ok → k ≠ i → (listed.setIfInBounds j true).getD k true = false →
     (∀ e ∈ ok.after, Region.binds md e = true → e.on ≠ i) → oi.apart ops ok = true := fun k ok hk hki hun hno => by
    refine hfree k ok hk hki ?_ hno
    by_cases hjk : j = k
    ·subst hjk; exact hjun
    ·rw [getD_set_ne true hjk] at hun; exact hun
   have hun := ready_false hr
   have hjD : j ∉ D := fun hd => not_ready_late hsd hun _ j (hD j hd).2 hji hj
   have hiD : i ∉ D := fun hd => (hD i hd).1 rfl
   have hnl : noLate D listed = true := by
    unfold noLate
    rw [List.all_eq_true]
    intro d hd
    cases hc : listed.getD d false with
    | false => rfl
    | true =>
     have := waitsFor_spec hsd _ d (hD d hd).2 hc
     rw [hun] at this
     cases this
   refine wpOp_mono (fun a' w' h3 => ?_) h2
   have hS' : S w' := h3.2.1 (noLate_set hjD (noLate_set hiD hnl))
   refine ⟨fun _ => hS', ih (listed.setIfInBounds j true) a' w' hfree' (hsd.step hj) (ready_mono hr (Ne.symm hji)) h3.1 hS' ?_⟩
   rw [Array.setIfInBounds_comm _ _ hji]
   exact h3.2.2

/-- Take number i first. -/
theorem wpAnyL_take {i : Nat} {oi : Oper} {v : Value} {fuel : Nat} {listed : Array Bool} {a : Act} {w : World} (hi : ops[i]? = some oi)
  (hs : (Region.noSelect ops && Region.free md ops listed i && (Region.ready md ops listed).contains i && shutDown md ops listed && D.all (fun d => d != i && waitsFor md ops i ops.size d)) = true)
  (hQ : ∀ c a w, Q (.panic c) (a.put oi.dst v) w → Q (.panic c) a w) (hy : YieldsIf P ops S oi v a) (hS : S w)
  (h : wpAnyL P md ops Q S D fuel (listed.setIfInBounds i true) (a.put oi.dst v) w) : wpAnyL P md ops Q S D (fuel + 1) listed a w := by
 simp only [Bool.and_eq_true] at hs
 obtain ⟨⟨⟨⟨h1, h2⟩, h3⟩, h4⟩, h5⟩ := hs
 refine wpAnyL_first hi (Region.noSelect_spec h1) hQ (fun d hd => ?_) fuel listed a w (Region.free_spec hi h2) (shutDown_spec h4) (by simpa using h3) hy hS h
 have := List.all_eq_true.1 h5 d hd
 simpa using this
/-- What yields whatever the world is asks for nothing of S and D. -/
theorem wpAnyL_firstY {i : Nat} {oi : Oper} {v : Value} (hi : ops[i]? = some oi) (hsel : ∀ (j : Nat) (o : Oper) cs b, ops[j]? = some o → o.op ≠ .select cs b)
  (hQ : ∀ c a w, Q (.panic c) (a.put oi.dst v) w → Q (.panic c) a w) (hiD : i ∉ D) :
  ∀ (fuel : Nat) (listed : Array Bool) (a : Act) (w : World),
   (∀ j oj, ops[j]? = some oj → j ≠ i → listed.getD j true = false → (∀ e ∈ oj.after, Region.binds md e = true → e.on ≠ i) → oi.apart ops oj = true) →
   i ∈ Region.ready md ops listed → Yields P ops oi v a → (noLate D listed = true → S w) →
   wpAnyL P md ops Q S D fuel (listed.setIfInBounds i true) (a.put oi.dst v) w → wpAnyL P md ops Q S D (fuel + 1) listed a w := by
 have back : ∀ {listed : Array Bool}, noLate D (listed.setIfInBounds i true) = true → noLate D listed = true := fun {listed} h => by
  unfold noLate at *
  rw [List.all_eq_true] at *
  intro d hd
  have h1 := h d hd
  rwa [getD_set_ne false (fun e : i = d => hiD (by rw [e]; exact hd))] at h1
 intro fuel
 induction fuel with
 | zero =>
  intro listed a w _ hr hy hS H
  refine ⟨fun h => (by rw [h] at hr; cases hr), fun j hj => ?_⟩
  by_cases hji : j = i
  ·subst hji; exact hy.wpOp hi ⟨fun h => hS (back h), H⟩
  ·have := ready_mono hj hji
   rw [H.1] at this
   cases this
 | succ fuel ih =>
  intro listed a w hfree hr hy hS H
  refine ⟨fun h => (by rw [h] at hr; cases hr), fun j hj => ?_⟩
  by_cases hji : j = i
  ·subst hji; exact hy.wpOp hi ⟨fun h => hS (back h), H⟩
  ·have h1 := H.2 j (ready_mono hj hji)
   obtain ⟨hjun, oj, hoj, hall⟩ := mem_ready.1 hj
   have hnot : ∀ e ∈ oj.after, Region.binds md e = true → e.on ≠ i := fun e he hb heq => by
    have h1 := hall e he hb
    rw [heq, ready_false hr] at h1
    cases h1
   have h2 := wpOp_put hoj (hfree j oj hoj hji hjun hnot) (fun cs b => hsel i oi cs b hi) (fun cs b => hsel j oj cs b hoj) hQ hy h1
   have hfree' : ∀ k ok, ops[k]? = some ok → k ≠ i → (listed.setIfInBounds j true).getD k true = false →
     (∀ e ∈ ok.after, Region.binds md e = true → e.on ≠ i) → oi.apart ops ok = true := fun k ok hk hki hun hno => by
    refine hfree k ok hk hki ?_ hno
    by_cases hjk : j = k
    ·subst hjk; exact hjun
    ·rw [getD_set_ne true hjk] at hun; exact hun
   refine wpOp_mono (fun a' w' h3 => ?_) h2
   have hS' : noLate D (listed.setIfInBounds j true) = true → S w' := fun h => h3.2.1 (by rw [Array.setIfInBounds_comm _ _ (Ne.symm hji)]; exact noLate_set hiD h)
   refine ⟨hS', ih (listed.setIfInBounds j true) a' w' hfree' (ready_mono hr (Ne.symm hji)) h3.1 hS' ?_⟩
   rw [Array.setIfInBounds_comm _ _ hji]
   exact h3.2.2
theorem wpAnyL_takeY {i : Nat} {oi : Oper} {v : Value} {fuel : Nat} {listed : Array Bool} {a : Act} {w : World} (hi : ops[i]? = some oi)
  (hs : (Region.noSelect ops && Region.free md ops listed i && (Region.ready md ops listed).contains i && !D.contains i) = true)
  (hQ : ∀ c a w, Q (.panic c) (a.put oi.dst v) w → Q (.panic c) a w) (hy : Yields P ops oi v a) (hS : noLate D listed = true → S w)
  (h : wpAnyL P md ops Q S D fuel (listed.setIfInBounds i true) (a.put oi.dst v) w) : wpAnyL P md ops Q S D (fuel + 1) listed a w := by
 simp only [Bool.and_eq_true] at hs
 obtain ⟨⟨⟨h1, h2⟩, h3⟩, h4⟩ := hs
 exact wpAnyL_firstY hi (Region.noSelect_spec h1) hQ (by simpa using h4) fuel listed a w (Region.free_spec hi h2) (by simpa using h3) hy hS h

def AllReadyL (P : Program) (md : Region.Mode) (ops : Array Oper) (Q : Exit → Act → World → Prop) (S : World → Prop) (D : List Nat) (fuel : Nat) (listed : Array Bool) (a : Act) (w : World) (rs : List Nat) : Prop :=
 ∀ i ∈ rs, wpOp P ops Q i (fun a' w' => (noLate D (listed.setIfInBounds i true) = true → S w') ∧ wpAnyL P md ops Q S D fuel (listed.setIfInBounds i true) a' w') a w
theorem AllReadyL.nil {fuel : Nat} {listed : Array Bool} {a : Act} {w : World} : AllReadyL P md ops Q S D fuel listed a w [] := fun _ h => by cases h
theorem AllReadyL.cons {fuel : Nat} {listed : Array Bool} {a : Act} {w : World} {i : Nat} {o : Oper} {rs : List Nat} (ho : ops[i]? = some o)
  (h : ∀ K' : Act → World → Prop, Shut (∀ a w, (noLate D (listed.setIfInBounds i true) = true → S w) → ((noLate D (listed.setIfInBounds i true) = true → S w) → wpAnyL P md ops Q S D fuel (listed.setIfInBounds i true) a w) → K' a w) → if Region.wanted o (yielded ops a.tmps) = true then Oper.wp P o a w K' Q else K' (a.put o.dst undef) w)
  (hs : AllReadyL P md ops Q S D fuel listed a w rs) : AllReadyL P md ops Q S D fuel listed a w (i :: rs) := fun j hj => by
 rcases List.mem_cons.1 hj with rfl | hj
 ·exact wpOp_step ho (fun K' hK => h K' (fun a w hS hW => hK a w ⟨hS, hW hS⟩))
 ·exact hs j hj
theorem wpAnyL_ready {rs : List Nat} {fuel : Nat} {listed : Array Bool} {a : Act} {w : World} (hr : Region.ready md ops listed = rs) (hne : rs ≠ [])
  (h : AllReadyL P md ops Q S D fuel listed a w rs) : wpAnyL P md ops Q S D (fuel + 1) listed a w := ⟨fun h0 => absurd (hr ▸ h0) hne, hr ▸ h⟩
theorem wpAnyL_done {listed : Array Bool} {a : Act} {w : World} (hr : Region.ready md ops listed = []) (h : Q .normal a w) :
  ∀ fuel, wpAnyL P md ops Q S D fuel listed a w
 | 0 => ⟨hr, h⟩
 | _ + 1 => ⟨fun _ => h, by rw [hr]; simp⟩
theorem wp_region_late {id : Nat} {a : Act} {w : World} (D : List Nat) (hm : P.follows .mixedOrders = true) (hS : S w.drew)
  (h : S w.drew → wpAnyL P .any ops Q S D ops.size (Array.replicate ops.size false) a w.drew) : (Code.region id ops true).wp P Q a w :=
 wp_region_any hm (wpAny_of_late _ _ _ _ (h hS))
end
end Go

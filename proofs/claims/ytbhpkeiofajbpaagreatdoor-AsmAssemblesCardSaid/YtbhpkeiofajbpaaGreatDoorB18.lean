/- Parts: Labels, AsmPlace, Src. -/
import Derived.Test.YtbhpkeiofajbpaaGreatDoorB08
import Derived.Test.YtbhpkeiofajbpaaGreatDoorB04
import Derived.Maps.OwnSet
import Derived.Maps.Views
import Derived.Deep.RegionHeld3
import Derived.Test.YtbhpkeiofajbpaaGreatDoorB07
/- The labels of a program on its way: a map of the call's own from names to places. -/
section
namespace Go.Proofs.YtbhpkeiofajbpaaGreatDoor
set_option linter.unusedSimpArgs false
open Go.RowKit Go.Maps Go.Proofs.YtbhpkeiofajbpaaGreatDoorW.PrintWords
set_option linter.unusedVariables false

def labAt (L : List (List UInt8 × Nat)) (s : List UInt8) : Option Nat := (L.find? (fun p => p.1 == s)).map (·.2)
theorem labAt_cons (k : List UInt8) (p : Nat) (L : List (List UInt8 × Nat)) (s : List UInt8) : labAt ((k, p) :: L) s = if k = s then some p else labAt L s := by
 unfold labAt
 by_cases h : k = s
 ·rw [if_pos h, List.find?_cons_of_pos (by simpa using h)]; rfl
 ·rw [if_neg h, List.find?_cons_of_neg (by simpa using h)]
/-- Block bm holds the labels. -/
def LMap (W : World) (bm : Nat) (L : List (List UInt8 × Nat)) : Prop :=
 ∃ (n : Nat) (D : DataW Unit), W.ownsMap Tryz.prog 9 (plainElem Tryz.prog 3) bm n D ∧ IsMap D ∧ n ≤ L.length ∧
  ∀ s : List UInt8, has D (.string s) = (labAt L s).isSome ∧ D.atKey (.string s) (.lit (.int .i64 0)) = .lit (.int .i64 ((labAt L s).getD 0 : Nat))
theorem LMap.made (w : World) : LMap (w.alloc (.map #[] 0)) w.heap.size [] :=
 ⟨0, .map [], World.ownsMap_made w _ _ _, isMap_empty, Nat.le_refl _, fun s => ⟨rfl, rfl⟩⟩
theorem key_mk (s : List UInt8) (hs : s.length ≤ 1000000) : keyOf Tryz.prog 9 (.string ⟨s.toArray⟩) = some (.string s) := by
 have h : (⟨s.toArray⟩ : ByteArray).size ≤ maxLen := by simp [ByteArray.size, maxLen]; omega
 simp [keyOf, mapKey, Tryz.underlying9, h]
section
variable {ops : Array Oper} {rest : List Oper} {o : Oper} {a : Act} {Q : Exit → Act → World → Prop} {W : World}
theorem lab_look (hg : o.guard = none) (m x : Operand) (hop : o.op = .lookup 101 m x true) (bm : Nat) (L : List (List UInt8 × Nat)) (hm : a.eval m = .map (some bm)) (h : LMap W bm L)
  (s : List UInt8) (hs : s.length ≤ 1000000) (hx : a.eval x = .string ⟨s.toArray⟩)
  (hK : wpList Tryz.prog ops Q rest (a.put o.dst (.tuple #[.int .i64 ((labAt L s).getD 0 : Nat), .bool (labAt L s).isSome])) W) : wpList Tryz.prog ops Q (o :: rest) a W := by
 obtain ⟨n, D, ho, hi, hn, hL⟩ := h
 refine wpList_lookup_own_ok_int W hg m x 101 hop 9 3 .i64 (string_keyed Tryz.underlying9) Tryz.underlying101 Tryz.underlying3 (Tryz.zeroValue3 _) bm n D hm ho _ (.string s) hx (key_mk s hs) ?_
 intro c hat hw
 rw [(hL s).2] at hat
 have e : c = (((labAt L s).getD 0 : Nat) : Int) := by
  injection hat with h1
  injection h1 with _ h2
  exact h2.symm
 rw [e, (hL s).1]
 exact hK
end
end Go.Proofs.YtbhpkeiofajbpaaGreatDoor
end
/- (*asm.source).place: a label's place; false: it has none. -/
section
namespace Go.Proofs.YtbhpkeiofajbpaaGreatDoor
open Go.RowKit Go.Maps Go.Proofs.YtbhpkeiofajbpaaGreatDoorW.PrintWords
set_option linter.unusedVariables false
set_option linter.unusedSimpArgs false

theorem getw {α : Type} {l : List α} {i : Nat} {o : α} (h : l[i]? = some o) : l.toArray[i]? = some o := by simpa using h
set_option maxHeartbeats 4000000 in
set_option maxRecDepth 100000 in
theorem place_calls (gx bm n c : Nat) (A : Option Addr) (v1 v2 : Value) (L : List (List UInt8 × Nat)) (s : List UInt8) (hs : s.length ≤ 1000000) (w : World)
  (hx : w.heap[gx]? = some (.cells #[.slice A n c, v1, v2, .map (some bm)] 104 (0, 0))) (hL : LMap w bm L) :
  Calls Tryz.prog 51 #[.pointer (some ⟨gx, 0, none⟩), .string ⟨s.toArray⟩] w fun e w' =>
   e = .returned (.tuple #[.int .i64 ((labAt L s).getD 0 : Nat), .bool ((labAt L s).isSome && decide (((labAt L s).getD 0 : Nat) < n))]) ∧ Below w.heap.size w w' := by
 have c0 : w.cell? ⟨gx, 0, none⟩ = some (.slice A n c) := (blk_cell hx 0).trans rfl
 have c3 : w.cell? ⟨gx, 3, none⟩ = some (.map (some bm)) := (blk_cell hx 3).trans rfl
 have hS : w.drew.cell? ⟨gx, 0, none⟩ = some (.slice A n c) := c0
 replace hL := Aside0.mk hL
 obtain ⟨p, hp⟩ : ∃ p, (labAt L s).getD 0 = p := ⟨_, rfl⟩
 obtain ⟨b, hb⟩ : ∃ b, (labAt L s).isSome = b := ⟨_, rfl⟩
 rw [hp, hb]
 go_enter Tryz.func51, Tryz.ntmps51
 go_wp2_with (refine lab_look rfl (.tmp 12) (.tmp 13) rfl bm L rfl hL.out s hs rfl ?_)
 clear hp hb hL hx
 cases b with
 | true =>
  by_cases hlt : p < n
  ·have h1 : decide ((p : Int) < (n : Int)) = true := decide_eq_true (by omega)
   go_wp2_with fail
   refine wp_region_held_drew (S := (fun W => W.cell? ⟨gx, 0, none⟩ = some (.slice A n c))) (by kernel_rfl) hS (fun hHeld0 => ?_)
   refine wpAnyH_take (i := 0) (oi := ?oia0) (v := ?va0) ?hia0 ?hsa0 ?hfa0 ?hra0 ?hQa0 ?hya0 ?hSa0 ?_
   case hia0 => refine getw ?_; rfl
   case hsa0 => kernel_rfl
   case hfa0 => kernel_rfl
   case hra0 => kernel_rfl
   case hQa0 => exact fun _ _ _ h => h
   case hya0 => (refine Or.inl ⟨by rfl, ?_⟩; intro w hSw; go_simp; try with_reducible rfl)
   case hSa0 => assumption
   try simp only [Act.put, List.setIfInBounds_toArray, List.set_cons_zero, List.set_cons_succ]
   refine wpAnyH_take (i := 1) (oi := ?oia1) (v := ?va1) ?hia1 ?hsa1 ?hfa1 ?hra1 ?hQa1 ?hya1 ?hSa1 ?_
   case hia1 => refine getw ?_; rfl
   case hsa1 => kernel_rfl
   case hfa1 => kernel_rfl
   case hra1 => kernel_rfl
   case hQa1 => exact fun _ _ _ h => h
   case hya1 => (refine Or.inl ⟨by rfl, ?_⟩; intro w hSw; go_simp; try with_reducible rfl)
   case hSa1 => assumption
   try simp only [Act.put, List.setIfInBounds_toArray, List.set_cons_zero, List.set_cons_succ]
   refine wpAnyH_take (i := 2) (oi := ?oia2) (v := ?va2) ?hia2 ?hsa2 ?hfa2 ?hra2 ?hQa2 ?hya2 ?hSa2 ?_
   case hia2 => refine getw ?_; rfl
   case hsa2 => kernel_rfl
   case hfa2 => kernel_rfl
   case hra2 => kernel_rfl
   case hQa2 => exact fun _ _ _ h => h
   case hya2 => (refine Or.inl ⟨by rfl, ?_⟩; intro w hSw; go_simp; try with_reducible rfl)
   case hSa2 => assumption
   try simp only [Act.put, List.setIfInBounds_toArray, List.set_cons_zero, List.set_cons_succ]
   refine wpAnyH_take (i := 3) (oi := ?oia3) (v := ?va3) ?hia3 ?hsa3 ?hfa3 ?hra3 ?hQa3 ?hya3 ?hSa3 ?_
   case hia3 => refine getw ?_; rfl
   case hsa3 => kernel_rfl
   case hfa3 => kernel_rfl
   case hra3 => kernel_rfl
   case hQa3 => exact fun _ _ _ h => h
   case hya3 => (refine Or.inl ⟨by rfl, ?_⟩; intro w hSw; go_simp; try with_reducible rfl)
   case hSa3 => assumption
   try simp only [Act.put, List.setIfInBounds_toArray, List.set_cons_zero, List.set_cons_succ]
   refine wpAnyH_take (i := 4) (oi := ?oia4) (v := ?va4) ?hia4 ?hsa4 ?hfa4 ?hra4 ?hQa4 ?hya4 ?hSa4 ?_
   case hia4 => refine getw ?_; rfl
   case hsa4 => kernel_rfl
   case hfa4 => kernel_rfl
   case hra4 => kernel_rfl
   case hQa4 => exact fun _ _ _ h => h
   case hya4 => (refine Or.inl ⟨by rfl, ?_⟩; intro w hSw; go_simp; try with_reducible rfl)
   case hSa4 => assumption
   try simp only [Act.put, List.setIfInBounds_toArray, List.set_cons_zero, List.set_cons_succ]
   refine wpAnyH_take (i := 5) (oi := ?oia5) (v := ?va5) ?hia5 ?hsa5 ?hfa5 ?hra5 ?hQa5 ?hya5 ?hSa5 ?_
   case hia5 => refine getw ?_; rfl
   case hsa5 => kernel_rfl
   case hfa5 => kernel_rfl
   case hra5 => kernel_rfl
   case hQa5 => exact fun _ _ _ h => h
   case hya5 => (refine Or.inl ⟨by rfl, ?_⟩; intro w hSw; go_simp; try with_reducible rfl)
   case hSa5 => assumption
   try simp only [Act.put, List.setIfInBounds_toArray, List.set_cons_zero, List.set_cons_succ]
   refine wpAnyH_take (i := 6) (oi := ?oia6) (v := ?va6) ?hia6 ?hsa6 ?hfa6 ?hra6 ?hQa6 ?hya6 ?hSa6 ?_
   case hia6 => refine getw ?_; rfl
   case hsa6 => kernel_rfl
   case hfa6 => kernel_rfl
   case hra6 => kernel_rfl
   case hQa6 => exact fun _ _ _ h => h
   case hya6 => (refine Or.inl ⟨by rfl, ?_⟩; intro w hSw; go_simp; try with_reducible rfl)
   case hSa6 => assumption
   try simp only [Act.put, List.setIfInBounds_toArray, List.set_cons_zero, List.set_cons_succ]
   refine wpAnyH_take (i := 7) (oi := ?oia7) (v := ?va7) ?hia7 ?hsa7 ?hfa7 ?hra7 ?hQa7 ?hya7 ?hSa7 ?_
   case hia7 => refine getw ?_; rfl
   case hsa7 => kernel_rfl
   case hfa7 => kernel_rfl
   case hra7 => kernel_rfl
   case hQa7 => exact fun _ _ _ h => h
   case hya7 => (refine Or.inl ⟨by rfl, ?_⟩; intro w hSw; go_simp; try with_reducible rfl)
   case hSa7 => assumption
   try simp only [Act.put, List.setIfInBounds_toArray, List.set_cons_zero, List.set_cons_succ]
   refine wpAnyH_take (i := 8) (oi := ?oia8) (v := ?va8) ?hia8 ?hsa8 ?hfa8 ?hra8 ?hQa8 ?hya8 ?hSa8 ?_
   case hia8 => refine getw ?_; rfl
   case hsa8 => kernel_rfl
   case hfa8 => kernel_rfl
   case hra8 => kernel_rfl
   case hQa8 => exact fun _ _ _ h => h
   case hya8 => (refine Or.inl ⟨by rfl, ?_⟩; intro w hSw; go_simp; try with_reducible rfl)
   case hSa8 => assumption
   try simp only [Act.put, List.setIfInBounds_toArray, List.set_cons_zero, List.set_cons_succ]
   refine wpAnyH_take (i := 9) (oi := ?oia9) (v := ?va9) ?hia9 ?hsa9 ?hfa9 ?hra9 ?hQa9 ?hya9 ?hSa9 ?_
   case hia9 => refine getw ?_; rfl
   case hsa9 => kernel_rfl
   case hfa9 => kernel_rfl
   case hra9 => kernel_rfl
   case hQa9 => exact fun _ _ _ h => h
   case hya9 => (refine Or.inl ⟨by rfl, ?_⟩; intro w hSw; go_simp; try with_reducible rfl)
   case hSa9 => assumption
   try simp only [Act.put, List.setIfInBounds_toArray, List.set_cons_zero, List.set_cons_succ]
   refine wpAnyH_take (i := 10) (oi := ?oia10) (v := ?va10) ?hia10 ?hsa10 ?hfa10 ?hra10 ?hQa10 ?hya10 ?hSa10 ?_
   case hia10 => refine getw ?_; rfl
   case hsa10 => kernel_rfl
   case hfa10 => kernel_rfl
   case hra10 => kernel_rfl
   case hQa10 => exact fun _ _ _ h => h
   case hya10 => (refine Or.inl ⟨by rfl, ?_⟩; intro w hSw; go_simp; try with_reducible rfl)
   case hSa10 => assumption
   try simp only [Act.put, List.setIfInBounds_toArray, List.set_cons_zero, List.set_cons_succ]
   refine wpAnyH_take (i := 11) (oi := ?oia11) (v := ?va11) ?hia11 ?hsa11 ?hfa11 ?hra11 ?hQa11 ?hya11 ?hSa11 ?_
   case hia11 => refine getw ?_; rfl
   case hsa11 => kernel_rfl
   case hfa11 => kernel_rfl
   case hra11 => kernel_rfl
   case hQa11 => exact fun _ _ _ h => h
   case hya11 => (refine Or.inl ⟨by rfl, ?_⟩; intro w hSw; go_simp; try with_reducible rfl)
   case hSa11 => assumption
   try simp only [Act.put, List.setIfInBounds_toArray, List.set_cons_zero, List.set_cons_succ]
   refine wpAnyH_take (i := 12) (oi := ?oia12) (v := ?va12) ?hia12 ?hsa12 ?hfa12 ?hra12 ?hQa12 ?hya12 ?hSa12 ?_
   case hia12 => refine getw ?_; rfl
   case hsa12 => kernel_rfl
   case hfa12 => kernel_rfl
   case hra12 => kernel_rfl
   case hQa12 => exact fun _ _ _ h => h
   case hya12 => (refine Or.inl ⟨by rfl, ?_⟩; intro w hSw; go_simp; try with_reducible rfl)
   case hSa12 => assumption
   try simp only [Act.put, List.setIfInBounds_toArray, List.set_cons_zero, List.set_cons_succ]
   refine wpAnyH_done (by kernel_rfl) ?_ _
   go_wp2
   go_ret2
   exact ⟨by simp [hlt], below_drew (Below.refl _ _)⟩
  ·have h1 : decide ((p : Int) < (n : Int)) = false := decide_eq_false (by omega)
   go_wp2_with fail
   refine wp_region_held_drew (S := (fun W => W.cell? ⟨gx, 0, none⟩ = some (.slice A n c))) (by kernel_rfl) hS (fun hHeld0 => ?_)
   refine wpAnyH_take (i := 0) (oi := ?oib0) (v := ?vb0) ?hib0 ?hsb0 ?hfb0 ?hrb0 ?hQb0 ?hyb0 ?hSb0 ?_
   case hib0 => refine getw ?_; rfl
   case hsb0 => kernel_rfl
   case hfb0 => kernel_rfl
   case hrb0 => kernel_rfl
   case hQb0 => exact fun _ _ _ h => h
   case hyb0 => (refine Or.inl ⟨by rfl, ?_⟩; intro w hSw; go_simp; try with_reducible rfl)
   case hSb0 => assumption
   try simp only [Act.put, List.setIfInBounds_toArray, List.set_cons_zero, List.set_cons_succ]
   refine wpAnyH_take (i := 1) (oi := ?oib1) (v := ?vb1) ?hib1 ?hsb1 ?hfb1 ?hrb1 ?hQb1 ?hyb1 ?hSb1 ?_
   case hib1 => refine getw ?_; rfl
   case hsb1 => kernel_rfl
   case hfb1 => kernel_rfl
   case hrb1 => kernel_rfl
   case hQb1 => exact fun _ _ _ h => h
   case hyb1 => (refine Or.inl ⟨by rfl, ?_⟩; intro w hSw; go_simp; try with_reducible rfl)
   case hSb1 => assumption
   try simp only [Act.put, List.setIfInBounds_toArray, List.set_cons_zero, List.set_cons_succ]
   refine wpAnyH_take (i := 2) (oi := ?oib2) (v := ?vb2) ?hib2 ?hsb2 ?hfb2 ?hrb2 ?hQb2 ?hyb2 ?hSb2 ?_
   case hib2 => refine getw ?_; rfl
   case hsb2 => kernel_rfl
   case hfb2 => kernel_rfl
   case hrb2 => kernel_rfl
   case hQb2 => exact fun _ _ _ h => h
   case hyb2 => (refine Or.inl ⟨by rfl, ?_⟩; intro w hSw; go_simp; try with_reducible rfl)
   case hSb2 => assumption
   try simp only [Act.put, List.setIfInBounds_toArray, List.set_cons_zero, List.set_cons_succ]
   refine wpAnyH_take (i := 3) (oi := ?oib3) (v := ?vb3) ?hib3 ?hsb3 ?hfb3 ?hrb3 ?hQb3 ?hyb3 ?hSb3 ?_
   case hib3 => refine getw ?_; rfl
   case hsb3 => kernel_rfl
   case hfb3 => kernel_rfl
   case hrb3 => kernel_rfl
   case hQb3 => exact fun _ _ _ h => h
   case hyb3 => (refine Or.inl ⟨by rfl, ?_⟩; intro w hSw; go_simp; try with_reducible rfl)
   case hSb3 => assumption
   try simp only [Act.put, List.setIfInBounds_toArray, List.set_cons_zero, List.set_cons_succ]
   refine wpAnyH_take (i := 4) (oi := ?oib4) (v := ?vb4) ?hib4 ?hsb4 ?hfb4 ?hrb4 ?hQb4 ?hyb4 ?hSb4 ?_
   case hib4 => refine getw ?_; rfl
   case hsb4 => kernel_rfl
   case hfb4 => kernel_rfl
   case hrb4 => kernel_rfl
   case hQb4 => exact fun _ _ _ h => h
   case hyb4 => (refine Or.inl ⟨by rfl, ?_⟩; intro w hSw; go_simp; try with_reducible rfl)
   case hSb4 => assumption
   try simp only [Act.put, List.setIfInBounds_toArray, List.set_cons_zero, List.set_cons_succ]
   refine wpAnyH_take (i := 5) (oi := ?oib5) (v := ?vb5) ?hib5 ?hsb5 ?hfb5 ?hrb5 ?hQb5 ?hyb5 ?hSb5 ?_
   case hib5 => refine getw ?_; rfl
   case hsb5 => kernel_rfl
   case hfb5 => kernel_rfl
   case hrb5 => kernel_rfl
   case hQb5 => exact fun _ _ _ h => h
   case hyb5 => (refine Or.inl ⟨by rfl, ?_⟩; intro w hSw; go_simp; try with_reducible rfl)
   case hSb5 => assumption
   try simp only [Act.put, List.setIfInBounds_toArray, List.set_cons_zero, List.set_cons_succ]
   refine wpAnyH_take (i := 6) (oi := ?oib6) (v := ?vb6) ?hib6 ?hsb6 ?hfb6 ?hrb6 ?hQb6 ?hyb6 ?hSb6 ?_
   case hib6 => refine getw ?_; rfl
   case hsb6 => kernel_rfl
   case hfb6 => kernel_rfl
   case hrb6 => kernel_rfl
   case hQb6 => exact fun _ _ _ h => h
   case hyb6 => (refine Or.inl ⟨by rfl, ?_⟩; intro w hSw; go_simp; try with_reducible rfl)
   case hSb6 => assumption
   try simp only [Act.put, List.setIfInBounds_toArray, List.set_cons_zero, List.set_cons_succ]
   refine wpAnyH_take (i := 7) (oi := ?oib7) (v := ?vb7) ?hib7 ?hsb7 ?hfb7 ?hrb7 ?hQb7 ?hyb7 ?hSb7 ?_
   case hib7 => refine getw ?_; rfl
   case hsb7 => kernel_rfl
   case hfb7 => kernel_rfl
   case hrb7 => kernel_rfl
   case hQb7 => exact fun _ _ _ h => h
   case hyb7 => (refine Or.inl ⟨by rfl, ?_⟩; intro w hSw; go_simp; try with_reducible rfl)
   case hSb7 => assumption
   try simp only [Act.put, List.setIfInBounds_toArray, List.set_cons_zero, List.set_cons_succ]
   refine wpAnyH_take (i := 8) (oi := ?oib8) (v := ?vb8) ?hib8 ?hsb8 ?hfb8 ?hrb8 ?hQb8 ?hyb8 ?hSb8 ?_
   case hib8 => refine getw ?_; rfl
   case hsb8 => kernel_rfl
   case hfb8 => kernel_rfl
   case hrb8 => kernel_rfl
   case hQb8 => exact fun _ _ _ h => h
   case hyb8 => (refine Or.inl ⟨by rfl, ?_⟩; intro w hSw; go_simp; try with_reducible rfl)
   case hSb8 => assumption
   try simp only [Act.put, List.setIfInBounds_toArray, List.set_cons_zero, List.set_cons_succ]
   refine wpAnyH_take (i := 9) (oi := ?oib9) (v := ?vb9) ?hib9 ?hsb9 ?hfb9 ?hrb9 ?hQb9 ?hyb9 ?hSb9 ?_
   case hib9 => refine getw ?_; rfl
   case hsb9 => kernel_rfl
   case hfb9 => kernel_rfl
   case hrb9 => kernel_rfl
   case hQb9 => exact fun _ _ _ h => h
   case hyb9 => (refine Or.inl ⟨by rfl, ?_⟩; intro w hSw; go_simp; try with_reducible rfl)
   case hSb9 => assumption
   try simp only [Act.put, List.setIfInBounds_toArray, List.set_cons_zero, List.set_cons_succ]
   refine wpAnyH_take (i := 10) (oi := ?oib10) (v := ?vb10) ?hib10 ?hsb10 ?hfb10 ?hrb10 ?hQb10 ?hyb10 ?hSb10 ?_
   case hib10 => refine getw ?_; rfl
   case hsb10 => kernel_rfl
   case hfb10 => kernel_rfl
   case hrb10 => kernel_rfl
   case hQb10 => exact fun _ _ _ h => h
   case hyb10 => (refine Or.inl ⟨by rfl, ?_⟩; intro w hSw; go_simp; try with_reducible rfl)
   case hSb10 => assumption
   try simp only [Act.put, List.setIfInBounds_toArray, List.set_cons_zero, List.set_cons_succ]
   refine wpAnyH_take (i := 11) (oi := ?oib11) (v := ?vb11) ?hib11 ?hsb11 ?hfb11 ?hrb11 ?hQb11 ?hyb11 ?hSb11 ?_
   case hib11 => refine getw ?_; rfl
   case hsb11 => kernel_rfl
   case hfb11 => kernel_rfl
   case hrb11 => kernel_rfl
   case hQb11 => exact fun _ _ _ h => h
   case hyb11 => (refine Or.inl ⟨by rfl, ?_⟩; intro w hSw; go_simp; try with_reducible rfl)
   case hSb11 => assumption
   try simp only [Act.put, List.setIfInBounds_toArray, List.set_cons_zero, List.set_cons_succ]
   refine wpAnyH_take (i := 12) (oi := ?oib12) (v := ?vb12) ?hib12 ?hsb12 ?hfb12 ?hrb12 ?hQb12 ?hyb12 ?hSb12 ?_
   case hib12 => refine getw ?_; rfl
   case hsb12 => kernel_rfl
   case hfb12 => kernel_rfl
   case hrb12 => kernel_rfl
   case hQb12 => exact fun _ _ _ h => h
   case hyb12 => (refine Or.inl ⟨by rfl, ?_⟩; intro w hSw; go_simp; try with_reducible rfl)
   case hSb12 => assumption
   try simp only [Act.put, List.setIfInBounds_toArray, List.set_cons_zero, List.set_cons_succ]
   refine wpAnyH_done (by kernel_rfl) ?_ _
   go_wp2
   go_ret2
   exact ⟨by simp [hlt], below_drew (Below.refl _ _)⟩
 | false =>
  go_wp2_with fail
  refine wp_region_held_drew (S := (fun W => W.cell? ⟨gx, 0, none⟩ = some (.slice A n c))) (by kernel_rfl) hS (fun hHeld0 => ?_)
  refine wpAnyH_take (i := 0) (oi := ?oic0) (v := ?vc0) ?hic0 ?hsc0 ?hfc0 ?hrc0 ?hQc0 ?hyc0 ?hSc0 ?_
  case hic0 => refine getw ?_; rfl
  case hsc0 => kernel_rfl
  case hfc0 => kernel_rfl
  case hrc0 => kernel_rfl
  case hQc0 => exact fun _ _ _ h => h
  case hyc0 => (refine Or.inl ⟨by rfl, ?_⟩; intro w hSw; go_simp; try with_reducible rfl)
  case hSc0 => assumption
  try simp only [Act.put, List.setIfInBounds_toArray, List.set_cons_zero, List.set_cons_succ]
  refine wpAnyH_take (i := 1) (oi := ?oic1) (v := ?vc1) ?hic1 ?hsc1 ?hfc1 ?hrc1 ?hQc1 ?hyc1 ?hSc1 ?_
  case hic1 => refine getw ?_; rfl
  case hsc1 => kernel_rfl
  case hfc1 => kernel_rfl
  case hrc1 => kernel_rfl
  case hQc1 => exact fun _ _ _ h => h
  case hyc1 => (refine Or.inl ⟨by rfl, ?_⟩; intro w hSw; go_simp; try with_reducible rfl)
  case hSc1 => assumption
  try simp only [Act.put, List.setIfInBounds_toArray, List.set_cons_zero, List.set_cons_succ]
  refine wpAnyH_take (i := 2) (oi := ?oic2) (v := ?vc2) ?hic2 ?hsc2 ?hfc2 ?hrc2 ?hQc2 ?hyc2 ?hSc2 ?_
  case hic2 => refine getw ?_; rfl
  case hsc2 => kernel_rfl
  case hfc2 => kernel_rfl
  case hrc2 => kernel_rfl
  case hQc2 => exact fun _ _ _ h => h
  case hyc2 => (refine Or.inl ⟨by rfl, ?_⟩; intro w hSw; go_simp; try with_reducible rfl)
  case hSc2 => assumption
  try simp only [Act.put, List.setIfInBounds_toArray, List.set_cons_zero, List.set_cons_succ]
  refine wpAnyH_take (i := 3) (oi := ?oic3) (v := undef) ?hic3 ?hsc3 ?hfc3 ?hrc3 ?hQc3 ?hyc3 ?hSc3 ?_
  case hic3 => refine getw ?_; rfl
  case hsc3 => kernel_rfl
  case hfc3 => kernel_rfl
  case hrc3 => kernel_rfl
  case hQc3 => exact fun _ _ _ h => h
  case hyc3 => (refine Or.inr ⟨by rfl, by rfl⟩)
  case hSc3 => assumption
  try simp only [Act.put, List.setIfInBounds_toArray, List.set_cons_zero, List.set_cons_succ]
  refine wpAnyH_take (i := 4) (oi := ?oic4) (v := undef) ?hic4 ?hsc4 ?hfc4 ?hrc4 ?hQc4 ?hyc4 ?hSc4 ?_
  case hic4 => refine getw ?_; rfl
  case hsc4 => kernel_rfl
  case hfc4 => kernel_rfl
  case hrc4 => kernel_rfl
  case hQc4 => exact fun _ _ _ h => h
  case hyc4 => (refine Or.inr ⟨by rfl, by rfl⟩)
  case hSc4 => assumption
  try simp only [Act.put, List.setIfInBounds_toArray, List.set_cons_zero, List.set_cons_succ]
  refine wpAnyH_take (i := 5) (oi := ?oic5) (v := undef) ?hic5 ?hsc5 ?hfc5 ?hrc5 ?hQc5 ?hyc5 ?hSc5 ?_
  case hic5 => refine getw ?_; rfl
  case hsc5 => kernel_rfl
  case hfc5 => kernel_rfl
  case hrc5 => kernel_rfl
  case hQc5 => exact fun _ _ _ h => h
  case hyc5 => (refine Or.inr ⟨by rfl, by rfl⟩)
  case hSc5 => assumption
  try simp only [Act.put, List.setIfInBounds_toArray, List.set_cons_zero, List.set_cons_succ]
  refine wpAnyH_take (i := 6) (oi := ?oic6) (v := undef) ?hic6 ?hsc6 ?hfc6 ?hrc6 ?hQc6 ?hyc6 ?hSc6 ?_
  case hic6 => refine getw ?_; rfl
  case hsc6 => kernel_rfl
  case hfc6 => kernel_rfl
  case hrc6 => kernel_rfl
  case hQc6 => exact fun _ _ _ h => h
  case hyc6 => (refine Or.inr ⟨by rfl, by rfl⟩)
  case hSc6 => assumption
  try simp only [Act.put, List.setIfInBounds_toArray, List.set_cons_zero, List.set_cons_succ]
  refine wpAnyH_take (i := 7) (oi := ?oic7) (v := undef) ?hic7 ?hsc7 ?hfc7 ?hrc7 ?hQc7 ?hyc7 ?hSc7 ?_
  case hic7 => refine getw ?_; rfl
  case hsc7 => kernel_rfl
  case hfc7 => kernel_rfl
  case hrc7 => kernel_rfl
  case hQc7 => exact fun _ _ _ h => h
  case hyc7 => (refine Or.inr ⟨by rfl, by rfl⟩)
  case hSc7 => assumption
  try simp only [Act.put, List.setIfInBounds_toArray, List.set_cons_zero, List.set_cons_succ]
  refine wpAnyH_take (i := 8) (oi := ?oic8) (v := undef) ?hic8 ?hsc8 ?hfc8 ?hrc8 ?hQc8 ?hyc8 ?hSc8 ?_
  case hic8 => refine getw ?_; rfl
  case hsc8 => kernel_rfl
  case hfc8 => kernel_rfl
  case hrc8 => kernel_rfl
  case hQc8 => exact fun _ _ _ h => h
  case hyc8 => (refine Or.inr ⟨by rfl, by rfl⟩)
  case hSc8 => assumption
  try simp only [Act.put, List.setIfInBounds_toArray, List.set_cons_zero, List.set_cons_succ]
  refine wpAnyH_take (i := 9) (oi := ?oic9) (v := undef) ?hic9 ?hsc9 ?hfc9 ?hrc9 ?hQc9 ?hyc9 ?hSc9 ?_
  case hic9 => refine getw ?_; rfl
  case hsc9 => kernel_rfl
  case hfc9 => kernel_rfl
  case hrc9 => kernel_rfl
  case hQc9 => exact fun _ _ _ h => h
  case hyc9 => (refine Or.inr ⟨by rfl, by rfl⟩)
  case hSc9 => assumption
  try simp only [Act.put, List.setIfInBounds_toArray, List.set_cons_zero, List.set_cons_succ]
  refine wpAnyH_take (i := 10) (oi := ?oic10) (v := ?vc10) ?hic10 ?hsc10 ?hfc10 ?hrc10 ?hQc10 ?hyc10 ?hSc10 ?_
  case hic10 => refine getw ?_; rfl
  case hsc10 => kernel_rfl
  case hfc10 => kernel_rfl
  case hrc10 => kernel_rfl
  case hQc10 => exact fun _ _ _ h => h
  case hyc10 => (refine Or.inl ⟨by rfl, ?_⟩; intro w hSw; go_simp; try with_reducible rfl)
  case hSc10 => assumption
  try simp only [Act.put, List.setIfInBounds_toArray, List.set_cons_zero, List.set_cons_succ]
  refine wpAnyH_take (i := 11) (oi := ?oic11) (v := ?vc11) ?hic11 ?hsc11 ?hfc11 ?hrc11 ?hQc11 ?hyc11 ?hSc11 ?_
  case hic11 => refine getw ?_; rfl
  case hsc11 => kernel_rfl
  case hfc11 => kernel_rfl
  case hrc11 => kernel_rfl
  case hQc11 => exact fun _ _ _ h => h
  case hyc11 => (refine Or.inl ⟨by rfl, ?_⟩; intro w hSw; go_simp; try with_reducible rfl)
  case hSc11 => assumption
  try simp only [Act.put, List.setIfInBounds_toArray, List.set_cons_zero, List.set_cons_succ]
  refine wpAnyH_take (i := 12) (oi := ?oic12) (v := ?vc12) ?hic12 ?hsc12 ?hfc12 ?hrc12 ?hQc12 ?hyc12 ?hSc12 ?_
  case hic12 => refine getw ?_; rfl
  case hsc12 => kernel_rfl
  case hfc12 => kernel_rfl
  case hrc12 => kernel_rfl
  case hQc12 => exact fun _ _ _ h => h
  case hyc12 => (refine Or.inl ⟨by rfl, ?_⟩; intro w hSw; go_simp; try with_reducible rfl)
  case hSc12 => assumption
  try simp only [Act.put, List.setIfInBounds_toArray, List.set_cons_zero, List.set_cons_succ]
  refine wpAnyH_done (by kernel_rfl) ?_ _
  go_wp2
  go_ret2
  exact ⟨by simp, below_drew (Below.refl _ _)⟩
end Go.Proofs.YtbhpkeiofajbpaaGreatDoor
end
/- A program on its way, in the heap: rows of instructions, of names, of numbers, made by append. -/
section
namespace Go.Proofs.YtbhpkeiofajbpaaGreatDoor
open Go.RowKit Go.Proofs.YtbhpkeiofajbpaaGreatDoorW.PrintWords
set_option linter.unusedVariables false

theorem info_in : (Tryz.prog.info? 99).map (fun i => (i.zero, i.size, i.bytes)) = some (some (.agg In.zero.cs), 8, 64) := by kernel_rfl
theorem info_st : (Tryz.prog.info? 9).map (fun i => (i.zero, i.size, i.bytes)) = some (some (.string ⟨#[]⟩), 1, 16) := by kernel_rfl
/-- The cells of a row of instructions. -/
def inCells (l : List In) : List Value := (l.map fun i => i.cs.toList).flatten
theorem inCells_len (l : List In) : (inCells l).length = l.length * 8 := by
 induction l with
 | nil => rfl
 | cons i l ih =>
  unfold inCells at ih ⊢
  rw [List.map_cons, List.flatten_cons, List.length_append, ih, List.length_cons]
  have : i.cs.toList.length = 8 := rfl
  omega
theorem inCells_snoc (l : List In) (i : In) : inCells (l ++ [i]) = inCells l ++ i.cs.toList := by simp [inCells]
def InRow (W : World) (base : Nat) (v : Value) (xs : List In) : Prop := W.ownsRow base 99 8 v xs.length (inCells xs)
def NmRow (W : World) (base : Nat) (v : Value) (xs : List (List UInt8)) : Prop := W.ownsRow base 9 1 v xs.length (xs.map fun s => Value.string ⟨s.toArray⟩)
theorem InRow.nil (W : World) (base : Nat) : InRow W base (.slice none 0 0) [] := ⟨rfl, .inl ⟨rfl, rfl⟩⟩
theorem NmRow.nil (W : World) (base : Nat) : NmRow W base (.slice none 0 0) [] := ⟨rfl, .inl ⟨rfl, rfl⟩⟩
section
variable {ops : Array Oper} {rest : List Oper} {o : Oper} {a : Act} {Q : Exit → Act → World → Prop} {W : World}
theorem app_nm (hgd : o.guard = none) (s x : Operand) (ho : o.op = .call { callee := .builtin .append, args := #[s, x], argTypes := #[102, 102] })
  (base g : Nat) (y : List UInt8) (v : Value) (xs : List (List UInt8)) (hs : a.eval s = v) (hr : NmRow W base v xs) (hx : a.eval x = .slice (some ⟨g, 0, none⟩) 1 1)
  (hy : W.heap[g]? = some (.cells #[.string ⟨y.toArray⟩] 9 (0, 0))) (hl : xs.length ≤ 1000000) (hb : base ≤ W.heap.size)
  (h : ∀ v' W1, NmRow W1 base v' (xs ++ [y]) → W.grownBy W1 v.ownBlock → (v'.ownBlock = v.ownBlock ∨ v'.ownBlock = some W.heap.size) → wpList Tryz.prog ops Q rest (a.put o.dst v') W1) :
  wpList Tryz.prog ops Q (o :: rest) a W := by
 obtain ⟨i9, hi, hz0, hz1, hz2⟩ := info_parts info_st
 refine wpList_append_own_at _ hgd s x 102 ho base 9 i9 (.string ⟨#[]⟩) 1 16 Tryz.underlying102 hi hz0 hz1 hz2 rfl (by decide) v xs.length _ hs hr ⟨g, 0, none⟩ 1 1 [.string ⟨y.toArray⟩] hx rfl ?_ ?_ ?_ ?_ hb ?_
 ·intro j u hj
  rw [add_plain]
  exact (blk_cell hy j).trans (by simpa using hj)
 ·simp [Value.oneCell']
 ·simp [maxLen]; omega
 ·omega
 ·intro v' W1 h1 h2 _ h4
  refine h v' W1 ?_ h2 h4
  unfold NmRow
  rw [List.map_append, List.length_append]
  exact h1
end
/-- The source in block gx: three rows in blocks of their own, the labels' map in block bm. -/
structure SrcAt (W : World) (base gx bm : Nat) (v0 v1 v2 : Value) (x : Src) : Prop where
 s : W.heap[gx]? = some (.cells #[v0, v1, v2, .map (some bm)] 104 (0, 0))
 r0 : InRow W base v0 x.l
 r1 : NmRow W base v1 x.names
 r2 : IntRow W base v2 x.rows
 m : LMap W bm x.labels
 gb : base ≤ gx
 bb : base ≤ bm
end Go.Proofs.YtbhpkeiofajbpaaGreatDoor
end

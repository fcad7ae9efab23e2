/- Parts: Lines. -/
import Derived.RangeFuncNested
import Derived.RangeFuncBound
import Derived.RangeFuncCalls
import Derived.RangeFuncLeaves
import Derived.Shelf.Abstract
import Derived.Shelf.RegionOpen
import Derived.WalkKit
import Derived.OwnWalkIn
import Derived.TacticsInMore
import Derived.LoopNIn
import Derived.LoopIn
import Derived.Test.YtbhpkeiofajbpaaGreatDoorB22
import Derived.Test.YtbhpkeiofajbpaaGreatDoorB08
import Derived.Test.YtbhpkeiofajbpaaGreatDoorB04
/- strings.Lines: the iterator's side: all lines come, each with its end; or a part of them, a round having said 'no more'. -/
namespace Go.Proofs.YtbhpkeiofajbpaaGreatDoor
open Go.RowKit Go.Shelf Go.Proofs.YtbhpkeiofajbpaaGreatDoorW.PrintWords
set_option linter.unusedVariables false
attribute [local go_sem] Oper.semAt_some

theorem linesF_nil : linesF [] = [] := rfl
theorem linesF_miss : ∀ (l : List UInt8), l ≠ [] → Lib.indexByte l 10 = -1 → linesF l = [l]
 | [], h, _ => absurd rfl h
 | b :: l, _, h => by
  unfold Lib.indexByte at h
  by_cases hb : b = 10
  ·subst hb; simp at h
  ·have hb' : (b == 10) = false := beq_eq_false_iff_ne.2 hb
   rw [hb'] at h
   simp only [Bool.false_eq_true, if_false] at h
   have hge := Lib.indexByte_ge l 10
   by_cases hm : Lib.indexByte l 10 = -1
   ·cases l with
    | nil => rw [linesF, if_neg hb]; rfl
    | cons c r => rw [linesF, if_neg hb, linesF_miss (c :: r) (by simp) hm]
   ·rw [if_neg (by rw [beq_iff_eq]; exact hm)] at h
    omega
theorem linesF_hit : ∀ (l : List UInt8) (i : Nat), Lib.indexByte l 10 = i → linesF l = l.take (i + 1) :: linesF (l.drop (i + 1))
 | [], i, h => by simp [Lib.indexByte] at h
 | b :: l, i, h => by
  unfold Lib.indexByte at h
  by_cases hb : b = 10
  ·subst hb
   simp at h
   obtain rfl : i = 0 := by omega
   rw [linesF, if_pos rfl]
   rfl
  ·have hb' : (b == 10) = false := beq_eq_false_iff_ne.2 hb
   rw [hb'] at h
   simp only [Bool.false_eq_true, if_false] at h
   have hge := Lib.indexByte_ge l 10
   by_cases hm : Lib.indexByte l 10 = -1
   ·rw [hm] at h; simp at h
   ·rw [if_neg (by rw [beq_iff_eq]; exact hm)] at h
    obtain ⟨j, rfl⟩ : ∃ j, i = j + 1 := ⟨i - 1, by omega⟩
    rw [linesF, if_neg hb, linesF_hit l j (by omega)]
    simp

theorem indexByte_lt : ∀ (l : List UInt8) (i : Nat), Lib.indexByte l 10 = i → i < l.length
 | [], i, h => by simp [Lib.indexByte] at h
 | b :: l, i, h => by
  unfold Lib.indexByte at h
  by_cases hb : (b == 10) = true
  ·rw [if_pos hb] at h
   simp
   omega
  ·rw [if_neg hb] at h
   have hge := Lib.indexByte_ge l 10
   by_cases hm : Lib.indexByte l 10 = -1
   ·rw [hm] at h; simp at h
   ·rw [if_neg (by rw [beq_iff_eq]; exact hm)] at h
    have := indexByte_lt l (i - 1) (by omega)
    simp
    omega
/-- What the captured cell holds is so long. -/
def cellLen (c : Nat) (W : World) : Nat := match W.cell? ⟨c, 0, none⟩ with
 | some (.string s) => s.size
 | _ => 0
theorem cellLen_eq {c : Nat} {W : World} {l : List UInt8} (h : W.cell? ⟨c, 0, none⟩ = some (.string ⟨l.toArray⟩)) : cellLen c W = l.length := by
 unfold cellLen; rw [h]; simp [ByteArray.size]

set_option maxHeartbeats 2000000 in
set_option maxRecDepth 100000 in
theorem lines_iter (n : Nat) (t : List UInt8) (c : Nat) (w : World) (ht : t.length ≤ 1000000) (hc : w.heap[c]? = some (.cells #[.string ⟨t.toArray⟩] 9 (0, 0))) :
  IterCell Fence.wide n Tryz.prog 80 #[.pointer (some ⟨c, 0, none⟩)] (fun x : List UInt8 => Value.string ⟨x.toArray⟩) c (fun xs => xs = linesF t) (fun pre => ∃ rest, linesF t = pre ++ rest) w := by
 intro l J Jx W hW hJ hJx hY h0
 have hcW : W.heap[c]? = some (.cells #[.string ⟨t.toArray⟩] 9 (0, 0)) := blk_keep hW hc
 refine callsIn_of_wp Tryz.func80 rfl trivial ?_ rfl
 simp only [Tryz.ntmps80, List.size_toArray, List.length_cons, List.length_nil, Nat.reduceAdd, Nat.reduceSub, Array.replicate_succ, Array.replicate_zero, List.push_toArray, List.append_toArray, List.nil_append, List.cons_append]
 gi_wp2
 gi_loopw [3, 4] (fun v3 v4 wr => ∃ (pre : List (List UInt8)) (rest : List UInt8), linesF t = pre ++ linesF rest ∧ rest.length ≤ 1000000 ∧ wr.heap[c]? = some (.cells #[.string ⟨rest.toArray⟩] 9 (0, 0)) ∧ J pre wr)
  (fun _ _ wr => cellLen c wr)
 case atStart => exact ⟨[], t, rfl, ht, hcW, h0⟩
 case round =>
  obtain ⟨pre, rest, hp, hr, hcr, hJr⟩ := hrel
  have c0 : wr.cell? ⟨c, 0, none⟩ = some (.string ⟨rest.toArray⟩) := (blk_cell hcr 0).trans rfl
  have f0 := blk_frozen hcr 0
  have z0 : c < wr.heap.size := blk_lt hcr
  have C := Aside0.mk (Tryz.strings_IndexByte ⟨rest.toArray⟩ 10 wr)
  by_cases hn : rest = []
  ·subst hn
   gi_wp2
   go_end0
   exact ⟨⟨_, rfl⟩, .inl (by simpa [hp, linesF_nil] using hJr)⟩
  ·have hpos : 0 < rest.length := List.length_pos_iff.2 hn
   have hsz : (⟨rest.toArray⟩ : ByteArray).size = rest.length := by simp [ByteArray.size]
   have hge := Lib.indexByte_ge rest 10
   by_cases hm : Lib.indexByte rest 10 = -1
   ·have hl := linesF_miss rest hn hm
    have C' := C.out
    rw [show Lib.indexByte (⟨rest.toArray⟩ : ByteArray).data.toList (10 : Int).toNat.toUInt8 = -1 from hm] at C'
    replace C' := Aside0.mk C'
    clear C
    have hs' : (wr.setCell ⟨c, 0, none⟩ (.string ⟨#[]⟩)).heap[c]? = some (.cells #[.string ⟨#[]⟩] 9 (0, 0)) := blk_set hcr 0 (.string ⟨#[]⟩)
    obtain ⟨fn, tmps, assign, body, hy, hR⟩ := hY pre rest (wr.setCell ⟨c, 0, none⟩ (.string ⟨#[]⟩)) ⟨[], by rw [hp, hl, List.append_nil]⟩ (hJ.cell _ _ _ hJr)
    gi_wp2
    refine ⟨trivial, fun h => by simp [Fence.wide] at h, ?_⟩
    refine CallsIn.mono (callsIn_wide.2 C'.out) ?_
    rintro e w' ⟨rfl, rfl⟩
    gi_wp2
    refine ⟨fun h => by simp [Fence.wide] at h, hR.mono ?_⟩
    rintro e W3 (⟨rfl, hJ3, hk3⟩ | ⟨rfl, hJx3⟩)
    ·gi_wp2
     go_roundw
     case rel => exact ⟨pre ++ [rest], [], by rw [hp, hl, linesF_nil, List.append_nil], by simp, hk3.trans hs', hJ3⟩
     case measure => rw [cellLen_eq (l := []) ((blk_cell (hk3.trans hs') 0).trans rfl), cellLen_eq c0]; exact hpos
    ·gi_wp2
     refine bodyPost_ret (results_none rfl _ _ _) rfl ?_
     exact ⟨⟨_, rfl⟩, .inr ⟨pre ++ [rest], ⟨[], by rw [hp, hl, List.append_nil]⟩, hJx3⟩⟩
   ·obtain ⟨i, hi⟩ : ∃ i : Nat, Lib.indexByte rest 10 = i := ⟨(Lib.indexByte rest 10).toNat, by omega⟩
    have hl := linesF_hit rest i hi
    have hlt := indexByte_lt rest i hi
    have C' := C.out
    rw [show Lib.indexByte (⟨rest.toArray⟩ : ByteArray).data.toList (10 : Int).toNat.toUInt8 = i from hi] at C'
    replace C' := Aside0.mk C'
    clear C
    have hw1 : IntKind.i64.wrap ((i : Int) + 1) = (i : Int) + 1 := by rw [IntKind.wrap_i64]; omega
    have et : (⟨rest.toArray⟩ : ByteArray).extract 0 (i + 1) = ⟨(rest.take (i + 1)).toArray⟩ := by rw [ext_mk]; simp
    have ed : (⟨rest.toArray⟩ : ByteArray).extract (i + 1) rest.length = ⟨(rest.drop (i + 1)).toArray⟩ := by rw [ext_mk, List.take_of_length_le (by rw [List.length_drop]; omega)]
    gi_wp2
    refine ⟨trivial, fun h => by simp [Fence.wide] at h, ?_⟩
    refine CallsIn.mono (callsIn_wide.2 C'.out) ?_
    rintro e w' ⟨rfl, rfl⟩
    gi_wp2
    gi_region
    have hs' : ((w'.setCell ⟨c, 0, none⟩ (.string ⟨(rest.drop (i + 1)).toArray⟩)).drew).heap[c]? = some (.cells #[.string ⟨(rest.drop (i + 1)).toArray⟩] 9 (0, 0)) := blk_drew (blk_set hcr 0 (.string ⟨(rest.drop (i + 1)).toArray⟩))
    obtain ⟨fn, tmps, assign, body, hy, hR⟩ := hY pre (rest.take (i + 1)) ((w'.setCell ⟨c, 0, none⟩ (.string ⟨(rest.drop (i + 1)).toArray⟩)).drew) ⟨linesF (rest.drop (i + 1)), by rw [hp, hl]; simp⟩ (hJ.below _ _ _ (hJ.cell _ _ _ hJr) (below_drew (Below.refl _ _)))
    gi_wp2
    refine ⟨fun h => by simp [Fence.wide] at h, hR.mono ?_⟩
    rintro e W3 (⟨rfl, hJ3, hk3⟩ | ⟨rfl, hJx3⟩)
    ·gi_wp2
     go_roundw
     case rel => exact ⟨pre ++ [rest.take (i + 1)], rest.drop (i + 1), by rw [hp, hl]; simp, by rw [List.length_drop]; omega, hk3.trans hs', hJ3⟩
     case measure => rw [cellLen_eq (l := rest.drop (i + 1)) ((blk_cell (hk3.trans hs') 0).trans rfl), cellLen_eq c0, List.length_drop]; omega
    ·gi_wp2
     refine bodyPost_ret (results_none rfl _ _ _) rfl ?_
     exact ⟨⟨_, rfl⟩, .inr ⟨pre ++ [rest.take (i + 1)], ⟨linesF (rest.drop (i + 1)), by rw [hp, hl]; simp⟩, hJx3⟩⟩
end Go.Proofs.YtbhpkeiofajbpaaGreatDoor

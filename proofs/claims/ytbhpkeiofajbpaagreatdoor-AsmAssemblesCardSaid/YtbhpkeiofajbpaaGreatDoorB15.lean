/- Parts: Text. -/
import Derived.Test.YtbhpkeiofajbpaaGreatDoorB05
import Derived.Test.YtbhpkeiofajbpaaGreatDoorB14
import Derived.Test.YtbhpkeiofajbpaaGreatDoorB04
/- The length of a text. inst.Text -/
namespace Go.Proofs.YtbhpkeiofajbpaaGreatDoor
open Go

theorem dec_len (v : Int) (h : v ≤ 9223372036854775807) : (dec v).length ≤ 20 := digits_len _ (by omega)
theorem wordsF_short (i : In) (hf : i.fits) (s : Int) : ∀ w ∈ wordsF i s, w.length ≤ 21 := by
 have h1 := dec_len i.a (by have := hf.a; omega)
 have h2 := dec_len i.q (by have := hf.q; omega)
 have h3 := dec_len i.t (by have := hf.t; omega)
 have h4 := dec_len i.k (by have := hf.k; omega)
 have h5 : ∀ j, (dec (i.get j)).length ≤ 20 := fun j => dec_len _ (by have := hf.get j; omega)
 unfold wordsF
 cases fieldOff s with
 | some j =>
  dsimp only
  intro w hw
  have := h5 j
  by_cases h : j = 5
  ·rw [if_pos h] at hw
   simp at hw; subst hw; omega
  ·rw [if_neg h] at hw
   simp at hw; subst hw; simp; omega
 | none =>
  dsimp only
  intro w hw
  by_cases h : s = 80
  ·rw [if_pos h] at hw
   simp at hw; subst hw; omega
  by_cases h' : s = 87
  ·rw [if_neg h, if_pos h'] at hw
   by_cases hq : i.q = -1
   ·rw [if_pos hq] at hw
    simp at hw
    rcases hw with rfl | rfl
    ·split <;> simp
    ·simp; omega
   ·rw [if_neg hq] at hw
    simp at hw
    rcases hw with rfl | rfl | rfl | rfl
    ·split <;> simp
    ·simp; omega
    ·simp
    ·omega
  rw [if_neg h, if_neg h'] at hw
  simp at hw; subst hw; omega
theorem join_len (sep : List UInt8) (n : Nat) : ∀ (l : List (List UInt8)), (∀ w ∈ l, w.length ≤ n) → (Lib.joinTail sep l).length ≤ l.length * (n + sep.length)
 | [], _ => by simp [Lib.joinTail]
 | x :: l, h => by
  have h1 := h x (List.mem_cons_self ..)
  have h2 := join_len sep n l (fun w hw => h w (List.mem_cons_of_mem _ hw))
  simp only [Lib.joinTail, List.map_cons, List.flatten_cons, List.length_append, List.length_cons] at h2 ⊢
  rw [Nat.add_mul]
  omega
theorem flat_len (f : UInt8 → List (List UInt8)) (n : Nat) (h : ∀ c, (f c).length ≤ n) : ∀ l : List UInt8, (l.map f).flatten.length ≤ l.length * n
 | [] => by simp
 | c :: l => by
  have := flat_len f n h l
  have := h c
  simp only [List.map_cons, List.flatten_cons, List.length_append, List.length_cons]
  rw [Nat.add_mul]
  omega
theorem opName_len (op : Int) : (opName op).length ≤ 5 := by
 unfold opName
 repeat (refine ite_len (by decide) ?_)
 decide
theorem textF_len (i : In) (hf : i.fits) : (textF i).length ≤ 600 := by
 unfold textF allWords
 rw [Lib.join_cons, List.length_append]
 have h1 := opName_len i.op
 have h2 := flat_len (fun c => wordsF i (c.toNat : Int)) 4 (fun c => wordsF_len i _) (opHas i.op)
 have h3 := opHas_len i.op
 have h4 := join_len [32] 21 ((opHas i.op).map fun c => wordsF i (c.toNat : Int)).flatten (fun w hw => by
  rw [List.mem_flatten] at hw
  obtain ⟨l, hl, hw⟩ := hw
  rw [List.mem_map] at hl
  obtain ⟨c, _, rfl⟩ := hl
  exact wordsF_short i hf _ w hw)
 simp only [List.length_cons, List.length_nil] at h4
 have h5 : ((opHas i.op).map fun c => wordsF i (c.toNat : Int)).flatten.length ≤ 20 := by omega
 have h6 := Nat.mul_le_mul_right (21 + (0 + 1)) h5
 omega
end Go.Proofs.YtbhpkeiofajbpaaGreatDoor

namespace Go.Proofs.YtbhpkeiofajbpaaGreatDoor
open Go.RowKit Go.Proofs.YtbhpkeiofajbpaaGreatDoorW.PrintWords
set_option linter.unusedVariables false

theorem wordsF_field {i : In} {sg : Int} {j : Nat} (h : fieldOff sg = some j) : wordsF i sg = if j = 5 then [dec i.a] else [114 :: dec (i.get j)] := by
 unfold wordsF; rw [h]
theorem wordsF_num {i : In} {sg : Int} (h : fieldOff sg = none) (h80 : sg ≠ 80) (h87 : sg ≠ 87) : wordsF i sg = [dec i.k] := by
 unfold wordsF; rw [h]; dsimp only; rw [if_neg h80, if_neg h87]

theorem idx0 (W : World) : (Instr.index 197 (.agg #[.string ⟨#[101, 113]⟩, .string ⟨#[110, 101]⟩]) (.int .u32 0)).run Tryz.prog W = .ok (.string ⟨#[101, 113]⟩) W := by kernel_rfl
theorem idx1 (W : World) : (Instr.index 197 (.agg #[.string ⟨#[101, 113]⟩, .string ⟨#[110, 101]⟩]) (.int .u32 1)).run Tryz.prog W = .ok (.string ⟨#[110, 101]⟩) W := by kernel_rfl

theorem words_calls (i : In) (hf : i.fits) (sg : Int) (hq80 : sg = 80 → 0 ≤ i.q) (w : World) (he : Env w) :
  Calls Tryz.prog 93 #[i.v, .int .u8 sg] w fun e w' =>
   ∃ g c, e = .returned (.slice (some ⟨g, 0, none⟩) (wordsF i sg).length c) ∧ w.heap.size ≤ g ∧ StrRow w' g c (wordsF i sg) ∧ Below w.heap.size w w' := by
 cases i with
 | mk op d s t u a k q =>
  cases hfo : fieldOff sg with
  | some j =>
   by_cases h5 : j = 5
   ·have h65 : sg = 65 := by
     rcases fieldOff_cases hfo with ⟨rfl, h⟩ | ⟨rfl, h⟩ | ⟨rfl, h⟩ | ⟨rfl, h⟩ | ⟨rfl, h⟩ <;> omega
    subst h65
    exact words_area op d s t u a k q w hf.a
   ·rw [wordsF_field hfo, if_neg h5]
    exact words_reg op d s t u a k q sg j _ w hfo h5 rfl (hf.get j)
  | none =>
   by_cases h80 : sg = 80
   ·subst h80
    have hq := hf.q
    exact words_place op d s t u a k q w he ⟨hq80 rfl, hq.2⟩
   ·by_cases h87 : sg = 87
    ·subst h87
     have hq := hf.q
     have hk := hf.k
     simp only at hq hk
     have hi : ∃ wd : List UInt8, (if k = 0 then [101, 113] else [110, 101]) = wd ∧ ∀ W, (Instr.index 197 (.agg #[.string ⟨#[101, 113]⟩, .string ⟨#[110, 101]⟩]) (.int .u32 (min k 1))).run Tryz.prog W = .ok (.string ⟨wd.toArray⟩) W := by
      by_cases h0 : k = 0
      ·refine ⟨_, rfl, ?_⟩
       rw [if_pos h0, h0, show min (0 : Int) 1 = 0 from rfl]
       exact idx0
      ·refine ⟨_, rfl, ?_⟩
       rw [if_neg h0, show min k 1 = 1 by omega]
       exact idx1
     obtain ⟨wd, hwd, hi⟩ := hi
     by_cases h1 : q = -1
     ·have e : wordsF ⟨op, d, s, t, u, a, k, q⟩ 87 = [wd, 114 :: dec t] := by
       show (if k = 0 then [101, 113] else [110, 101]) :: (114 :: dec t) :: (if q = -1 then [] else [[101, 108, 115, 101], dec q]) = _
       rw [if_pos h1, hwd]
      rw [e]
      exact words_wait_no op d s t u a k q wd w he hf.t h1 hi
     ·have e : wordsF ⟨op, d, s, t, u, a, k, q⟩ 87 = [wd, 114 :: dec t, [101, 108, 115, 101], dec q] := by
       show (if k = 0 then [101, 113] else [110, 101]) :: (114 :: dec t) :: (if q = -1 then [] else [[101, 108, 115, 101], dec q]) = _
       rw [if_neg h1, hwd]
      rw [e]
      exact words_wait_to op d s t u a k q wd w he hf.t (by omega) hi
    ·rw [wordsF_num hfo h80 h87]
     exact words_num op d s t u a k q sg w he hf.k hfo h80 h87 (fun e => by rw [e] at hfo; cases hfo)

theorem take_flat (f : UInt8 → List (List UInt8)) (l : List UInt8) (k : Nat) (h : k < l.length) :
  ((l.take (k + 1)).map f).flatten = ((l.take k).map f).flatten ++ f (l.getD k 0) := by
 rw [List.take_succ_eq_append_getElem h, List.map_append, List.flatten_append]
 simp [List.getD_eq_getElem?_getD, List.getElem?_eq_getElem h]
theorem BytesAt.byte {w : World} {g : Nat} {e : TypeId} {l : List UInt8} (h : BytesAt w g e l) (k : Nat) (hk : k < l.length) : w.cell? ⟨g, k, none⟩ = some (.int .u8 ((l.getD k 0).toNat : Int)) := by
 obtain ⟨_, _, _, h2⟩ := h
 exact h2 k hk
theorem getD_mem {l : List UInt8} {k : Nat} (h : k < l.length) : l.getD k 0 ∈ l := by
 simp [List.getD_eq_getElem?_getD, List.getElem?_eq_getElem h]
theorem StrRow.cells {w : World} {g c : Nat} {ss : List (List UInt8)} (h : StrRow w g c ss) : ∀ j u, (ss.map fun l => Value.string ⟨l.toArray⟩)[j]? = some u → w.cell? ((⟨g, 0, none⟩ : Addr).add j) = some u := fun j u hj => by
 obtain ⟨cur, hb, hl, hm, hs, ht⟩ := h
 rw [add_plain]
 refine (blk_cell hb j).trans ?_
 rw [← ht] at hj
 rw [List.getElem?_take] at hj
 split at hj
 ·rw [← Array.getElem?_toList]; exact hj
 ·cases hj
def strVals (ss : List (List UInt8)) : List Value := ss.map fun l => Value.string ⟨l.toArray⟩

set_option maxHeartbeats 1000000 in
set_option maxRecDepth 100000 in
theorem text_right (op d s t u a k q : Int) (w : World) (he : Env w) (hr : rightF ⟨op, d, s, t, u, a, k, q⟩ 1073741824 = true) (hwk : 0 ≤ k ∧ k ≤ 4294967295) :
  Calls Tryz.prog 66 #[.agg #[.int .i64 op, .int .i64 d, .int .i64 s, .int .i64 t, .int .i64 u, .int .i64 a, .int .u32 k, .int .i64 q]] w fun e w' =>
   e = .returned (.tuple #[.string ⟨(textF ⟨op, d, s, t, u, a, k, q⟩).toArray⟩, .int .i64 0]) ∧ Below w.heap.size w w' := by
 have hfit := rightF_fits hr hwk
 have hq80 := rightF_q hr
 have HR := Aside0.mk (right_calls ⟨op, d, s, t, u, a, k, q⟩ 1073741824 hwk)
 have hl5 := opHas_len op
 have HT := Aside0.mk (Eq.refl (textF ⟨op, d, s, t, u, a, k, q⟩))
 replace hr := Aside0.mk hr
 replace hq80 := Aside0.mk hq80
 have kb := fun W => print_bytes (P := Tryz.prog) 9 126 5 Tryz.underlying9 Tryz.underlying126 Tryz.underlying5 ⟨(opHas op).toArray⟩ W
 go_enter Tryz.func66, Tryz.ntmps66
 go_wp2_with fail
 refine (HR.out _).mono ?_
 rintro e w1 ⟨rfl, hb1⟩
 rw [hr.out]
 have BK := Aside0.mk (blk_keep hb1 (blk_new w _))
 have z1 : w.heap.size < w1.heap.size := blk_lt BK.out
 have c0 : w1.cell? ⟨w.heap.size, 0, none⟩ = some (.int .i64 op) := (blk_cell BK.out 0).trans rfl
 go_wp2_with fail
 refine (of_calls _ _).mono ?_
 rintro e w2 ⟨rfl, hb2⟩
 have hbs := hb2.size
 replace BK := Aside0.mk (blk_keep hb2 BK.out)
 go_wp2_with fail
 clear c0 kb
 generalize grownCap _ _ _ _ = cap
 obtain ⟨i9, hi, hz0, hz1, hz2⟩ := info_parts info_str
 replace hi := Aside0.mk hi
 replace hz0 := Aside0.mk hz0
 replace hz1 := Aside0.mk hz1
 replace hz2 := Aside0.mk hz2
 have hB2 := Aside0.mk ((((Below.refl w.heap.size w).alloc (Nat.le_refl _) (.cells (In.cs ⟨op, d, s, t, u, a, k, q⟩) 99)).trans (hb1.mono (by simp))).trans (hb2.mono (by omega)))
 have hB3 := Aside0.mk (bytes_below ((hB2.out.alloc (by omega) (.cells #[.string ⟨(opName op).toArray⟩, .string ⟨(opHas op).toArray⟩] 161)).alloc (by simp; omega) (.cells #[.string ⟨(opName op).toArray⟩] 9)) (by simp; omega) 5 ⟨(opHas op).toArray⟩)
 have hBy := Aside0.mk (BytesAt.new ((w2.alloc (.cells #[.string ⟨(opName op).toArray⟩, .string ⟨(opHas op).toArray⟩] 161)).alloc (.cells #[.string ⟨(opName op).toArray⟩] 9)) 5 (opHas op) (w2.heap.size + 1 + 1) (by simp) (by omega))
 have hBK := Aside0.mk (blk_bytes (blk_old (blk_old BK.out (.cells #[.string ⟨(opName op).toArray⟩, .string ⟨(opHas op).toArray⟩] 161)) (.cells #[.string ⟨(opName op).toArray⟩] 9)) 5 ⟨(opHas op).toArray⟩)
 have hRw := Aside0.mk (blk_bytes (blk_new2 w2 (.cells #[.string ⟨(opName op).toArray⟩, .string ⟨(opHas op).toArray⟩] 161) (.cells #[.string ⟨(opName op).toArray⟩] 9)) 5 ⟨(opHas op).toArray⟩)
 go_loopw [5, 21] (fun v5 v21 wr => ∃ (kk : Nat) (ss : List (List UInt8)), v21 = .int .i64 kk ∧ kk ≤ (opHas op).length ∧ Aside0 (ss = opName op :: (((opHas op).take kk).map fun c => wordsF ⟨op, d, s, t, u, a, k, q⟩ (c.toNat : Int)).flatten) ∧
  Aside0 (wr.ownsRow w.heap.size 9 1 v5 ss.length (strVals ss)) ∧ Aside0 (wr.heap[w.heap.size]? = some (.cells (In.cs ⟨op, d, s, t, u, a, k, q⟩) 99 (0, 0))) ∧ Aside0 (BytesAt wr (w2.heap.size + 1 + 1) 5 (opHas op)) ∧
  Aside0 (Below w.heap.size w wr) ∧ ss.length ≤ 1 + 4 * kk ∧ 1 ≤ ss.length) (fun _ v21 wr => (opHas op).length - (intOf v21).toNat)
 case atStart =>
  exact ⟨0, [opName op], rfl, Nat.zero_le _, ⟨by simp⟩, ⟨rfl, .inr ⟨w2.heap.size + 1, 1, _, rfl, by omega, hRw.out, Nat.le_refl _, by simp [maxLen], rfl, rfl⟩⟩, hBK, hBy, hB3, by simp, by simp⟩
 case round =>
  clear hBK hBy hB3 hRw hB2 BK
  obtain ⟨kk, ss, rfl, hkk, hss, hown, hBK, hBy, hB, hlen, hpos⟩ := hrel
  by_cases hlt : kk < (opHas op).length
  ·have hby := hBy.out.byte kk hlt
   have hz := hB.out.size
   have he' := he.below hB.out
   have c0 : wr.cell? ⟨w.heap.size, 0, none⟩ = some (.int .i64 op) := (blk_cell hBK.out 0).trans rfl
   have c1 : wr.cell? ⟨w.heap.size, 1, none⟩ = some (.int .i64 d) := (blk_cell hBK.out 1).trans rfl
   have c2 : wr.cell? ⟨w.heap.size, 2, none⟩ = some (.int .i64 s) := (blk_cell hBK.out 2).trans rfl
   have c3 : wr.cell? ⟨w.heap.size, 3, none⟩ = some (.int .i64 t) := (blk_cell hBK.out 3).trans rfl
   have c4 : wr.cell? ⟨w.heap.size, 4, none⟩ = some (.int .i64 u) := (blk_cell hBK.out 4).trans rfl
   have c5 : wr.cell? ⟨w.heap.size, 5, none⟩ = some (.int .i64 a) := (blk_cell hBK.out 5).trans rfl
   have c6 : wr.cell? ⟨w.heap.size, 6, none⟩ = some (.int .u32 k) := (blk_cell hBK.out 6).trans rfl
   have c7 : wr.cell? ⟨w.heap.size, 7, none⟩ = some (.int .i64 q) := (blk_cell hBK.out 7).trans rfl
   have hm80 : (((opHas op).getD kk 0).toNat : Int) = 80 → 0 ≤ q := fun e => hq80.out (by
    have e' : (opHas op).getD kk 0 = 80 := UInt8.toNat_inj.1 (Int.ofNat_inj.1 e)
    rw [← e']
    exact getD_mem hlt)
   have htf := Aside0.mk (take_flat (fun c => wordsF ⟨op, d, s, t, u, a, k, q⟩ (c.toNat : Int)) (opHas op) kk hlt)
   have hw4 := wordsF_len ⟨op, d, s, t, u, a, k, q⟩ (((opHas op).getD kk 0).toNat : Int)
   generalize hs0 : (((opHas op).getD kk 0).toNat : Int) = sg at hby hm80 htf hw4
   clear hs0
   replace hm80 := Aside0.mk hm80
   go_wp2_with fail
   refine (words_calls ⟨op, d, s, t, u, a, k, q⟩ hfit sg hm80.out _ he').mono ?_
   rintro e w3 ⟨g, c, rfl, hg, hrow, hb3⟩
   have hown3 := Aside0.mk (pw_own_below hown.out hb3)
   have hbs3 := hb3.size
   have hca := Aside0.mk hrow.cells
   clear hrow
   generalize hwd : wordsF ⟨op, d, s, t, u, a, k, q⟩ sg = wd at htf hw4 hca
   replace hwd := Aside0.mk hwd
   go_wp2_with ((at_builtin; refine wpList_append_own _ rfl (.tmp 25) (.tmp 28) 102 rfl w.heap.size 9 i9 (.string ⟨#[]⟩) 1 16 Tryz.underlying102 hi.out hz0.out hz1.out hz2.out rfl (by decide) u5 ss.length (strVals ss) rfl hown3.out ⟨g, 0, none⟩ wd.length c (strVals wd) rfl ?c1 hca.out ?c2 ?c3 ?c4 ?c5 ?_))
   case c1 => simp [strVals]
   case c2 => simp [strVals, Value.oneCell']
   case c3 => simp only [maxLen]; omega
   case c4 => omega
   case c5 => omega
   intro v' w4 hown' hgr hnil
   have hbs4 := hgr.size
   have hne1 := Aside0.mk (own_apart hown3.out (blk_keep hb3 hBK.out) (show 9 ≠ 99 by decide))
   have hne2 := Aside0.mk ((hBy.out.keep hb3).own hown3.out (show 9 ≠ 5 by decide))
   have hbe := Aside0.mk ((hB.out.trans (hb3.mono (by omega))).grown hgr (by omega) (fun k hk => own_base hown3.out k hk))
   have hBK' := Aside0.mk (blk_grown (blk_keep hb3 hBK.out) hgr hne1.out)
   have hBy' := Aside0.mk ((hBy.out.keep hb3).grown hgr hne2.out)
   replace hown' := Aside0.mk hown'
   clear hgr hnil hown hown3 hBK hBy hca hb3 hB c0 c1 c2 c3 c4 c5 c6 c7 hby
   go_wp2
   go_roundw
   case rel =>
    refine ⟨kk + 1, ss ++ wd, by go_num, by omega, ⟨?_⟩, ⟨?_⟩, hBK', hBy', hbe, by simp; omega, by simp; omega⟩
    ·rw [htf.out, ← List.cons_append, ← hss.out]
    ·have := hown'.out
     simpa [strVals] using this
   case measure => simp [intOf]; omega
  ·have hkl : kk = (opHas op).length := by omega
   have hfin : allWords ⟨op, d, s, t, u, a, k, q⟩ = ss := by
    rw [hss.out, hkl, List.take_length]; rfl
   obtain ⟨hl1, hc1⟩ := hown.out
   have hc2 : ∃ g cap cur, u5 = .slice (some ⟨g, 0, none⟩) ss.length cap ∧ w.heap.size ≤ g ∧ wr.heap[g]? = some (.cells cur 9 (0, 0)) ∧ ss.length ≤ cap ∧ cap ≤ maxLen ∧ cur.size = cap * 1 ∧ cur.toList.take (ss.length * 1) = strVals ss := by
    rcases hc1 with ⟨_, h⟩ | h
    ·omega
    ·exact h
   obtain ⟨g, cap, cur, hv, hg, hblk, hle, hml, hcs, htk⟩ := hc2
   clear hc1
   rw [hv]
   have hcells : ∀ (j : Nat) x, (ss.map fun l => (⟨l.toArray⟩ : ByteArray))[j]? = some x → wr.cell? ⟨g, 0 + j, none⟩ = some (.string x) := fun j x hj => by
    have := (StrRow.cells ⟨cur, hblk, hle, hml, by omega, by simpa [strVals] using htk⟩ : ∀ j u, (ss.map fun l => Value.string ⟨l.toArray⟩)[j]? = some u → _) j (.string x) (by
     rw [List.getElem?_map] at hj ⊢
     cases hs : ss[j]? with
     | none => rw [hs] at hj; cases hj
     | some l => rw [hs] at hj; cases hj; rfl)
    rw [add_plain] at this
    simpa using this
   have hgz : g < wr.heap.size := blk_lt hblk
   have hjl : (Lib.join ((ss.map fun l => (⟨l.toArray⟩ : ByteArray)).map (·.data.toList)) (⟨#[32]⟩ : ByteArray).data.toList) = textF ⟨op, d, s, t, u, a, k, q⟩ := by
    unfold textF
    rw [hfin, List.map_map]
    congr 1
    conv => rhs; rw [← List.map_id ss]
    rfl
   have hjn := textF_len ⟨op, d, s, t, u, a, k, q⟩ hfit
   have hll : (ss.map fun l => (⟨l.toArray⟩ : ByteArray)).length = ss.length := List.length_map ..
   have HJ := Aside0.mk (Tryz.strings_Join g 0 cap (ss.map fun l => (⟨l.toArray⟩ : ByteArray)) ⟨#[32]⟩ wr hcells hgz (by rw [hll]; omega) (by rw [hll]; exact hle) (by rw [hjl]; omega))
   rw [hll, hjl] at HJ
   clear hcells hblk hcs htk hjl hll hfin hl1 hkl hv hss
   go_wp2_with fail
   refine HJ.out.mono ?_
   rintro e w5 ⟨rfl, hb5⟩
   go_wp2
   go_ret2
   exact ⟨rfl, hB.out.trans (hb5.mono (by have := hB.out.size; omega))⟩

set_option maxHeartbeats 400000 in
theorem text_wrong (op d s t u a k q : Int) (w : World) (hr : rightF ⟨op, d, s, t, u, a, k, q⟩ 1073741824 = false) (hwk : 0 ≤ k ∧ k ≤ 4294967295) :
  Calls Tryz.prog 66 #[.agg #[.int .i64 op, .int .i64 d, .int .i64 s, .int .i64 t, .int .i64 u, .int .i64 a, .int .u32 k, .int .i64 q]] w fun e w' =>
   e = .returned (.tuple #[.string ⟨#[]⟩, .int .i64 1]) ∧ Below w.heap.size w w' := by
 have HR := Aside0.mk (right_calls ⟨op, d, s, t, u, a, k, q⟩ 1073741824 hwk)
 replace hr := Aside0.mk hr
 go_enter Tryz.func66, Tryz.ntmps66
 go_wp2_with fail
 refine (HR.out _).mono ?_
 rintro e w1 ⟨rfl, hb1⟩
 rw [hr.out]
 go_wp2
 go_ret2
 exact ⟨rfl, ((Below.refl w.heap.size w).alloc (Nat.le_refl _) _).trans (hb1.mono (by simp))⟩

theorem text_calls (i : In) (hwk : i.wk) (w : World) (he : Env w) :
  Calls Tryz.prog 66 #[i.v] w fun e w' => e = .returned (.tuple #[.string ⟨(textR i).1.toArray⟩, .int .i64 (textR i).2]) ∧ Below w.heap.size w w' := by
 cases i with
 | mk op d s t u a k q =>
  unfold textR
  cases hr : rightF ⟨op, d, s, t, u, a, k, q⟩ 1073741824 with
  | true =>
   rw [if_pos rfl]
   exact text_right op d s t u a k q w he hr hwk
  | false =>
   rw [if_neg (by simp)]
   exact text_wrong op d s t u a k q w hr hwk
end Go.Proofs.YtbhpkeiofajbpaaGreatDoor

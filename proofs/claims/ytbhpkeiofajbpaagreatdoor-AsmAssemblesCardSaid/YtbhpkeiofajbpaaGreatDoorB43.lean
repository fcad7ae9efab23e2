/- Parts: RefLine, SpecKit, SpecStep, SpecRows. -/
import Derived.Test.YtbhpkeiofajbpaaGreatDoorB11
import Derived.Test.YtbhpkeiofajbpaaGreatDoorB29
import Derived.Test.YtbhpkeiofajbpaaGreatDoorB42
import Derived.Test.YtbhpkeiofajbpaaGreatDoorB17
import Derived.Test.YtbhpkeiofajbpaaGreatDoorB27
import Derived.Deep.RegionHeld3
/- ropelineref07: Name, Goes, Line: what they answer. -/
section
namespace Go.Proofs.YtbhpkeiofajbpaaGreatDoor
open Go.RowKit Go.Proofs.YtbhpkeiofajbpaaGreatDoorW.PrintWords
set_option linter.unusedVariables false
set_option linter.unusedSimpArgs false

def okB (c : UInt8) : Bool := lowB c || digB c
theorem okB_int (c : UInt8) : okB c = if (97 : Int) ≤ (c.toNat : Int) then (if (c.toNat : Int) ≤ 122 then true else false) else (if (48 : Int) ≤ (c.toNat : Int) then (if (c.toNat : Int) ≤ 57 then true else false) else false) := by
 unfold okB lowB digB
 rw [Bool.eq_iff_iff]
 simp only [Bool.or_eq_true, decide_eq_true_eq]
 repeat' split
 all_goals simp
 all_goals omega
theorem rname_l (l : List UInt8) (hl : l.length ≤ 1000000) : ∀ (m i : Nat), i + m = l.length → ropelineref07_Name.l0 (m + 1) ⟨l.toArray⟩ (i : Int) = some ((l.drop i).all okB)
 | 0, i, hi => by
  rw [List.drop_eq_nil_of_le (by omega)]
  unfold ropelineref07_Name.l0
  rw [szm, if_neg (by omega)]
  rfl
 | m + 1, i, hi => by
  have hlt : i < l.length := by omega
  have e2 : wrap64 ((i : Int) + 1) = ((i + 1 : Nat) : Int) := by unfold wrap64; omega
  have hg : l[i] = l.getD i 0 := by simp [List.getD_eq_getElem?_getD, List.getElem?_eq_getElem hlt]
  have hb := (l.getD i 0).toNat_lt
  rw [List.drop_eq_getElem_cons hlt, hg, List.all_cons, ropelineref07_Name.l0, szm, btm, if_pos (by omega), if_pos (by omega), e2, rname_l l hl m (i + 1) (by omega), okB_int]
  generalize (l.getD i 0).toNat = b at hb ⊢
  generalize (l.drop (i + 1)).all okB = r
  repeat' split
  all_goals first | (exfalso; omega) | rfl | simp_all
theorem rname_f (l : List UInt8) (hl : l.length ≤ 1000000) : ropelineref07_Name.f (l.length + 2) ⟨l.toArray⟩ = some (nameB l) := by
 have e0 := btm l 0
 have hb := (l.getD 0 0).toNat_lt
 have key : ropelineref07_Name.l0 (l.length + 1) ⟨l.toArray⟩ 0 = some (l.all okB) := rname_l l hl l.length 0 (by omega)
 have hok : l.all (fun c => lowB c || digB c) = l.all okB := rfl
 unfold ropelineref07_Name.f nameB
 rw [szm, hok]
 have e0' : bt ⟨l.toArray⟩ 0 = ((l.getD 0 0).toNat : Int) := e0
 have hh : l.headD 0 = l.getD 0 0 := by cases l <;> rfl
 rw [e0', hh]
 unfold lowB
 by_cases c1 : l.length < 1
 ·rw [if_pos (by omega), ropelineref07_Name.j0, if_pos rfl, decide_eq_false (show ¬ (1 ≤ l.length ∧ l.length ≤ 16) by omega)]; rfl
 ·rw [if_neg (by omega)]
  by_cases c2 : 16 < l.length
  ·rw [if_pos (by omega), ropelineref07_Name.j0, if_pos rfl, decide_eq_false (show ¬ (1 ≤ l.length ∧ l.length ≤ 16) by omega)]; rfl
  ·rw [if_neg (by omega), if_pos (by omega), decide_eq_true (show 1 ≤ l.length ∧ l.length ≤ 16 by omega)]
   by_cases c3 : (l.getD 0 0).toNat < 97
   ·rw [if_pos (by omega), ropelineref07_Name.j0, if_pos rfl, decide_eq_false (by omega)]; rfl
   ·rw [if_neg (by omega), ropelineref07_Name.j0]
    by_cases c4 : 122 < (l.getD 0 0).toNat
    ·rw [if_pos (by rw [decide_eq_true_eq]; omega), decide_eq_false (by omega)]; rfl
    ·rw [if_neg (by rw [decide_eq_true_eq]; omega), key, decide_eq_true (by omega)]; rfl
theorem rname_calls (l : List UInt8) (w : World) (hl : l.length ≤ 1000000) : Calls Tryz.prog 52 #[.string ⟨l.toArray⟩] w fun e w' => e = .returned (.bool (nameB l)) ∧ Below w.heap.size w w' :=
 (ropelineref07_Name.calls _ _ _ w (rname_f l hl)).mono fun e w' h => ⟨h.1, h.2.below⟩
theorem rgoes_calls (i : In) (w : World) : Calls Tryz.prog 70 #[i.v] w fun e w' => e = .returned (.bool (goesB i)) ∧ Below w.heap.size w w' := by
 obtain ⟨op, d, s, t, u, a, k, q⟩ := i
 refine ropelineref07_Goes.calls op d s t u a k q _ w ?_
 unfold ropelineref07_Goes.f goesB
 dsimp only
 by_cases h1 : 8 ≤ op
 ·rw [if_pos h1]
  by_cases h2 : op ≤ 10
  ·rw [if_pos h2, decide_eq_true (.inl ⟨h1, h2⟩)]
  ·rw [if_neg h2]
   by_cases h3 : op = 21
   ·rw [if_pos h3]
    congr 1
    rw [Bool.eq_iff_iff]; simp; omega
   ·rw [if_neg h3, decide_eq_false (by omega)]
 ·rw [if_neg h1]
  by_cases h3 : op = 21
  ·omega
  ·rw [if_neg h3, decide_eq_false (by omega)]
end Go.Proofs.YtbhpkeiofajbpaaGreatDoor

namespace Go.Proofs.YtbhpkeiofajbpaaGreatDoor
open Go.RowKit Go.Proofs.YtbhpkeiofajbpaaGreatDoorW.PrintWords
set_option linter.unusedVariables false
set_option linter.unusedSimpArgs false

/-- What the walk of Line holds: the result's box, the instruction's. -/
structure LInv (w W : World) (g : Nat) (i : In) : Prop where
 b : Below w.heap.size w W
 z : W.heap[w.heap.size]? = some (.cells In.zero.cs 114 (0, 0))
 i : W.heap[g]? = some (.cells i.cs 114 (0, 0))
 n : w.heap.size < g
theorem LInv.keep {w W W1 : World} {b : Nat} {i : In} (h : LInv w W b i) (hb : Below W.heap.size W W1) : LInv w W1 b i :=
 ⟨h.b.trans (hb.mono h.b.size), blk_keep hb h.z, blk_keep hb h.i, h.n⟩
/-- Eight cells of a block. -/
theorem cells8 {W : World} {g : Nat} {t : TypeId} {op d s t' u a k q : Int} (h : W.heap[g]? = some (.cells (In.cs ⟨op, d, s, t', u, a, k, q⟩) t (0, 0))) :
  W.cell? ⟨g, 0, none⟩ = some (.int .i64 op) ∧ W.cell? ⟨g, 1, none⟩ = some (.int .i64 d) ∧ W.cell? ⟨g, 2, none⟩ = some (.int .i64 s) ∧ W.cell? ⟨g, 3, none⟩ = some (.int .i64 t') ∧
  W.cell? ⟨g, 4, none⟩ = some (.int .i64 u) ∧ W.cell? ⟨g, 5, none⟩ = some (.int .i64 a) ∧ W.cell? ⟨g, 6, none⟩ = some (.int .u32 k) ∧ W.cell? ⟨g, 7, none⟩ = some (.int .i64 q) :=
 ⟨(blk_cell h 0).trans rfl, (blk_cell h 1).trans rfl, (blk_cell h 2).trans rfl, (blk_cell h 3).trans rfl, (blk_cell h 4).trans rfl, (blk_cell h 5).trans rfl, (blk_cell h 6).trans rfl, (blk_cell h 7).trans rfl⟩
theorem frozen8 {W : World} {g : Nat} {cs : Array Value} {t : TypeId} (h : W.heap[g]? = some (.cells cs t (0, 0))) :
  W.frozen? ⟨g, 0, none⟩ = false ∧ W.frozen? ⟨g, 1, none⟩ = false ∧ W.frozen? ⟨g, 2, none⟩ = false ∧ W.frozen? ⟨g, 3, none⟩ = false ∧ W.frozen? ⟨g, 4, none⟩ = false ∧ W.frozen? ⟨g, 5, none⟩ = false ∧ W.frozen? ⟨g, 6, none⟩ = false ∧ W.frozen? ⟨g, 7, none⟩ = false :=
 ⟨blk_frozen h 0, blk_frozen h 1, blk_frozen h 2, blk_frozen h 3, blk_frozen h 4, blk_frozen h 5, blk_frozen h 6, blk_frozen h 7⟩
theorem linv_put {w W : World} {b : Nat} {i : In} (h : LInv w W b i) (op d s t u a k q : Int) :
  LInv w ((((((((W.setCell ⟨b, 0, none⟩ (.int .i64 op)).setCell ⟨b, 1, none⟩ (.int .i64 d)).setCell ⟨b, 2, none⟩ (.int .i64 s)).setCell ⟨b, 3, none⟩ (.int .i64 t)).setCell ⟨b, 4, none⟩ (.int .i64 u)).setCell ⟨b, 5, none⟩ (.int .i64 a)).setCell ⟨b, 6, none⟩ (.int .u32 k)).setCell ⟨b, 7, none⟩ (.int .i64 q)) b ⟨op, d, s, t, u, a, k, q⟩ := by
 have hn := Nat.le_of_lt h.n
 have far : ∀ {W : World} {j : Nat} {v : Value} {o : Obj}, W.heap[w.heap.size]? = some o → (W.setCell ⟨b, j, none⟩ v).heap[w.heap.size]? = some o := fun hj => (Below.heap_setCell _ ⟨b, _, none⟩ _ _ (Nat.ne_of_lt h.n)).trans hj
 exact ⟨(((((((h.b.setCell hn _).setCell hn _).setCell hn _).setCell hn _).setCell hn _).setCell hn _).setCell hn _).setCell hn _,
  far (far (far (far (far (far (far (far h.z))))))), blk_put8 h.i _ _ _ _ _ _ _ _, h.n⟩
theorem rlineF_eq (s : List UInt8) : rlineF s = if (refP (headSp s ++ [48])).2 = true ∧ goesB (refP (headSp s ++ [48])).1 = true ∧ nameB (tailSp s) = true then ((refP (headSp s ++ [48])).1, tailSp s, true) else
  if (refP s).2 = false ∨ goesB (refP s).1 = true then (In.zero, [], false) else ((refP s).1, [], true) := rfl
theorem getLastD_at {α : Type} (l : List α) (d : α) {m : Nat} (h : l.length = m + 1) : l.getD m d = l.getLastD d := by
 rw [List.getLastD_eq_getLast?, List.getLast?_eq_getElem?, h, List.getD_eq_getElem?_getD]; rfl

set_option maxHeartbeats 4000000 in
set_option maxRecDepth 100000 in
theorem rline_calls (s : List UInt8) (w : World) (hl : s.length ≤ 90000) :
  Calls Tryz.prog 53 #[.string ⟨s.toArray⟩] w fun e w' => e = .returned (.tuple #[(rlineF s).1.v, .string ⟨(rlineF s).2.1.toArray⟩, .bool (rlineF s).2.2]) ∧ Below w.heap.size w w' := by
 have hap := sp_append s
 have hF := rlineF_eq s
 generalize rlineF s = fin at hF ⊢
 have CW := Aside0.mk (fun W => rwords_calls s (by omega) W)
 have hln : (headSp s).length + (tailSp s).length = s.length := by rw [← List.length_append, hap]
 have hne := splitF_ne s
 obtain ⟨m, hm⟩ : ∃ m, (splitF s).length = m + 1 := ⟨(splitF s).length - 1, by have := List.length_pos_iff.2 hne; omega⟩
 have htl : (splitF s).getD m [] = tailSp s := getLastD_at _ _ hm
 have hm1 : m + 1 ≤ s.length + 1 := by rw [← hm, splitF_length]; have := List.count_le_length (a := (32 : UInt8)) (l := s); omega
 have eh : (⟨s.toArray⟩ : ByteArray).extract 0 (headSp s).length = ⟨(headSp s).toArray⟩ := by
  rw [ext_mk, List.drop_zero, Nat.sub_zero, (cut_at hap).1]
 have e0 : (⟨(headSp s).toArray⟩ : ByteArray) ++ ⟨#[48]⟩ = ⟨(headSp s ++ [48]).toArray⟩ := app_mk (headSp s) [48]
 have CN := Aside0.mk (fun W => rname_calls (tailSp s) W (by omega))
 have C1 := Aside0.mk (fun (W : World) => refparse_calls (headSp s ++ [48]) (by simp; omega) W)
 have C2 := Aside0.mk (fun (W : World) => refparse_calls s (by omega) W)
 rw [hm] at CW
 generalize headSp s = hd at *
 generalize tailSp s = tl at *
 have hw1 : IntKind.i64.wrap (m : Int) = (m : Int) := by rw [IntKind.wrap_i64]; omega
 have hsub : IntKind.i64.wrap ((s.length : Int) - (tl.length : Int)) = (hd.length : Int) := by rw [IntKind.wrap_i64]; omega
 have hb1 : ¬ 9223372036854775807 < hd.length + 1 := by omega
 have hle : hd.length ≤ s.length := by omega
 have hle' : (hd.length : Int) ≤ (s.length : Int) := by omega
 have hge' : (0 : Int) ≤ (hd.length : Int) := by omega
 have hZ0 := Aside0.mk (blk_new w (.cells In.zero.cs 114))
 have hB0 := Aside0.mk ((Below.refl w.heap.size w).alloc (Nat.le_refl _) (.cells In.zero.cs 114))
 generalize refP (hd ++ [48]) = r1 at *
 generalize refP s = r2 at *
 obtain ⟨⟨op, d, s1, t, u, a, k, q⟩, e1⟩ := r1
 obtain ⟨⟨op2, d2, s2, t2, u2, a2, k2, q2⟩, e2⟩ := r2
 dsimp only at hF C1 C2
 replace C1 := C1.out
 replace C2 := C2.out
 dsimp only [In.v] at C1 C2
 replace C1 := Aside0.mk C1
 replace C2 := Aside0.mk C2
 have D1 := fun W => rgoes_calls ⟨op, d, s1, t, u, a, k, q⟩ W
 have D2 := fun W => rgoes_calls ⟨op2, d2, s2, t2, u2, a2, k2, q2⟩ W
 dsimp only [In.v] at D1 D2
 replace D1 := Aside0.mk D1
 replace D2 := Aside0.mk D2
 generalize goesB ⟨op, d, s1, t, u, a, k, q⟩ = g1 at *
 generalize goesB ⟨op2, d2, s2, t2, u2, a2, k2, q2⟩ = g2 at *
 generalize nameB tl = nb at *
 replace hF := Aside0.mk hF
 clear hap hne
 go_enter Tryz.func53, Tryz.ntmps53
 go_wp2_with fail
 refine (CW.out _).mono ?_
 rintro e w1 ⟨g, c, cur, rfl, hc, hg, hgz, hcur, hb⟩
 have hcl : w1.cell? ⟨g, m, none⟩ = some (.string ⟨tl.toArray⟩) := (blk_cell hg m).trans (by rw [hcur m (by omega), htl])
 have hZ1 := Aside0.mk (blk_keep hb hZ0.out)
 have hB1 := Aside0.mk (hB0.out.trans (hb.mono hB0.out.size))
 clear hZ0 hB0 hb CW hcur hg htl hgz
 go_wp2_with fail
 refine (C1.out _).mono ?_
 rintro e w2 ⟨rfl, hb⟩
 have hZ2 := Aside0.mk (blk_keep hb hZ1.out)
 have hB2 := Aside0.mk (hB1.out.trans (hb.mono hB1.out.size))
 have hs1 := blk_lt hZ2.out
 have HI := Aside0.mk (show LInv w (w2.alloc (.cells (In.cs ⟨op, d, s1, t, u, a, k, q⟩) 114)) w2.heap.size ⟨op, d, s1, t, u, a, k, q⟩ from
  ⟨hB2.out.alloc hB2.out.size _, blk_old hZ2.out _, blk_new _ _, hs1⟩)
 clear hZ1 hB1 hZ2 hB2 hb C1 hcl
 obtain ⟨b8, hb8⟩ : ∃ b, b = w2.heap.size := ⟨_, rfl⟩
 go_upto_region 5 with fail
 go_cut [39] (fun v wx => v = .bool (e1 && g1 && nb) ∧ Aside0 (LInv w wx b8 ⟨op, d, s1, t, u, a, k, q⟩))
 case first =>
  obtain ⟨x0, x1, x2, x3, x4, x5, x6, x7⟩ := cells8 HI.out.i
  cases e1 with
  | false =>
   go_wp2
   go_meet
   exact ⟨rfl, by rw [hb8]; exact HI⟩
  | true =>
   go_wp2_with fail
   refine (D1.out _).mono ?_
   rintro e w3 ⟨rfl, hb⟩
   replace HI := Aside0.mk (HI.out.keep hb)
   cases g1 with
   | false =>
    go_wp2
    go_meet
    exact ⟨rfl, by rw [hb8]; exact HI⟩
   | true =>
    go_wp2_with fail
    refine (CN.out _).mono ?_
    rintro e w4 ⟨rfl, hb'⟩
    replace HI := Aside0.mk (HI.out.keep hb')
    go_wp2
    go_meet
    exact ⟨by simp, by rw [hb8]; exact HI⟩
 case rest =>
  obtain ⟨rfl, HI⟩ := hcut
  subst hb8
  clear D1 CN
  obtain ⟨x0, x1, x2, x3, x4, x5, x6, x7⟩ := cells8 HI.out.i
  obtain ⟨f0, f1, f2, f3, f4, f5, f6, f7⟩ := frozen8 HI.out.i
  have z0 := blk_lt HI.out.z
  have z1 := blk_lt HI.out.i
  cases hc1 : (e1 && g1 && nb) with
  | true =>
   simp only [Bool.and_eq_true] at hc1
   have hfin : fin = (⟨op, d, s1, t, u, a, k, q⟩, tl, true) := by rw [hF.out, if_pos ⟨hc1.1.1, hc1.1.2, hc1.2⟩]
   subst hfin
   obtain ⟨y0, y1, y2, y3, y4, y5, y6, y7⟩ := frozen8 HI.out.z
   obtain ⟨zc0, zc1, zc2, zc3, zc4, zc5, zc6, zc7⟩ := cells8 HI.out.z
   clear C2 D2 hF
   go_wp2
   refine bodyPost_ret (results_ctt rfl _ _ w.heap.size 114 (In.cs ⟨op, d, s1, t, u, a, k, q⟩) (0, 0) _ rfl (blk_put8 HI.out.z (.int .i64 op) (.int .i64 d) (.int .i64 s1) (.int .i64 t) (.int .i64 u) (.int .i64 a) (.int .u32 k) (.int .i64 q)) Tryz.underlying114 rfl (by kernel_rfl)) rfl ⟨rfl, ?_⟩
   exact (((((((HI.out.b.setCell (Nat.le_refl _) _).setCell (Nat.le_refl _) _).setCell (Nat.le_refl _) _).setCell (Nat.le_refl _) _).setCell (Nat.le_refl _) _).setCell (Nat.le_refl _) _).setCell (Nat.le_refl _) _).setCell (Nat.le_refl _) _
  | false =>
   have hn : ¬ (e1 = true ∧ g1 = true ∧ nb = true) := fun h => by rw [h.1, h.2.1, h.2.2] at hc1; cases hc1
   replace hF := Aside0.mk (hF.out.trans (if_neg hn))
   clear hn hc1 x0 x1 x2 x3 x4 x5 x6 x7 f0 f1 f2 f3 f4 f5 f6 f7 z0 z1
   go_wp2_with fail
   refine (C2.out _).mono ?_
   rintro e w3 ⟨rfl, hb⟩
   replace HI := Aside0.mk (HI.out.keep hb)
   clear hb C2
   obtain ⟨x0, x1, x2, x3, x4, x5, x6, x7⟩ := cells8 HI.out.i
   obtain ⟨f0, f1, f2, f3, f4, f5, f6, f7⟩ := frozen8 HI.out.i
   have z0 := blk_lt HI.out.z
   have z1 := blk_lt HI.out.i
   have HJ := linv_put HI.out op2 d2 s2 t2 u2 a2 k2 q2
   obtain ⟨w5, hw5⟩ : ∃ y, ((((((((w3.setCell ⟨w2.heap.size, 0, none⟩ (.int .i64 op2)).setCell ⟨w2.heap.size, 1, none⟩ (.int .i64 d2)).setCell ⟨w2.heap.size, 2, none⟩ (.int .i64 s2)).setCell ⟨w2.heap.size, 3, none⟩ (.int .i64 t2)).setCell ⟨w2.heap.size, 4, none⟩ (.int .i64 u2)).setCell ⟨w2.heap.size, 5, none⟩ (.int .i64 a2)).setCell ⟨w2.heap.size, 6, none⟩ (.int .u32 k2)).setCell ⟨w2.heap.size, 7, none⟩ (.int .i64 q2)) = y := ⟨_, rfl⟩
   rw [hw5] at HJ
   replace HJ := Aside0.mk HJ
   clear HI
   go_upto_region 8 with fail
   try rw [hw5]
   clear hw5 x0 x1 x2 x3 x4 x5 x6 x7 f0 f1 f2 f3 f4 f5 f6 f7 z0 z1
   obtain ⟨b8, hb8⟩ : ∃ b, b = w2.heap.size := ⟨_, rfl⟩
   go_cut [52] (fun v wx => v = .bool (!e2 || g2) ∧ Aside0 (LInv w wx b8 ⟨op2, d2, s2, t2, u2, a2, k2, q2⟩))
   case first =>
    obtain ⟨x0, x1, x2, x3, x4, x5, x6, x7⟩ := cells8 HJ.out.i
    cases e2 with
    | false =>
     go_wp2
     go_meet
     exact ⟨rfl, by rw [hb8]; exact HJ⟩
    | true =>
     go_wp2_with fail
     refine (D2.out _).mono ?_
     rintro e w6 ⟨rfl, hb⟩
     replace HJ := Aside0.mk (HJ.out.keep hb)
     go_wp2
     go_meet
     exact ⟨by simp, by rw [hb8]; exact HJ⟩
   case rest =>
    obtain ⟨rfl, HJ⟩ := hcut
    subst hb8
    clear D2
    obtain ⟨x0, x1, x2, x3, x4, x5, x6, x7⟩ := cells8 HJ.out.i
    obtain ⟨y0, y1, y2, y3, y4, y5, y6, y7⟩ := frozen8 HJ.out.z
    obtain ⟨zc0, zc1, zc2, zc3, zc4, zc5, zc6, zc7⟩ := cells8 (op := 0) (d := 0) (s := 0) (t' := 0) (u := 0) (a := 0) (k := 0) (q := 0) HJ.out.z
    have z0 := blk_lt HJ.out.z
    have z1 := blk_lt HJ.out.i
    cases hc2 : (!e2 || g2) with
    | true =>
     have hfin : fin = (In.zero, [], false) := by
      rw [hF.out, if_pos]
      cases e2 with
      | false => exact .inl rfl
      | true => exact .inr (by simpa using hc2)
     subst hfin
     clear hF
     go_wp2
     refine bodyPost_ret (results_ctt rfl _ _ w.heap.size 114 In.zero.cs (0, 0) _ rfl (blk_put8 HJ.out.z (.int .i64 0) (.int .i64 0) (.int .i64 0) (.int .i64 0) (.int .i64 0) (.int .i64 0) (.int .u32 0) (.int .i64 0)) Tryz.underlying114 rfl (by kernel_rfl)) rfl ⟨rfl, ?_⟩
     exact (((((((HJ.out.b.setCell (Nat.le_refl _) _).setCell (Nat.le_refl _) _).setCell (Nat.le_refl _) _).setCell (Nat.le_refl _) _).setCell (Nat.le_refl _) _).setCell (Nat.le_refl _) _).setCell (Nat.le_refl _) _).setCell (Nat.le_refl _) _
    | false =>
     have hfin : fin = (⟨op2, d2, s2, t2, u2, a2, k2, q2⟩, [], true) := by
      rw [hF.out, if_neg]
      rintro (h | h)
      ·rw [h] at hc2; cases hc2
      ·rw [h] at hc2; simp at hc2
     subst hfin
     clear hF
     go_wp2
     refine bodyPost_ret (results_ctt rfl _ _ w.heap.size 114 (In.cs ⟨op2, d2, s2, t2, u2, a2, k2, q2⟩) (0, 0) _ rfl (blk_put8 HJ.out.z (.int .i64 op2) (.int .i64 d2) (.int .i64 s2) (.int .i64 t2) (.int .i64 u2) (.int .i64 a2) (.int .u32 k2) (.int .i64 q2)) Tryz.underlying114 rfl (by kernel_rfl)) rfl ⟨rfl, ?_⟩
     exact (((((((HJ.out.b.setCell (Nat.le_refl _) _).setCell (Nat.le_refl _) _).setCell (Nat.le_refl _) _).setCell (Nat.le_refl _) _).setCell (Nat.le_refl _) _).setCell (Nat.le_refl _) _).setCell (Nat.le_refl _) _).setCell (Nat.le_refl _) _
end Go.Proofs.YtbhpkeiofajbpaaGreatDoor
end
/- Specs of locks: what a Spec returns; the steps that make a spec. The Program laws: what is alike in all of them. -/
section
namespace Go.Proofs.YtbhpkeiofajbpaaGreatDoor
open Go.RowKit Go.Proofs.YtbhpkeiofajbpaaGreatDoorW.PrintWords
set_option linter.unusedVariables false
set_option linter.unusedSimpArgs false

/-- The spec's box p is filled but for its program; the result's box is zero. -/
structure SpB (w W : World) (N p : Nat) (B C D : Option Addr) (n1 n2 n3 k1 k2 k3 : Nat) (each : Int) : Prop where
 b : Below N w W
 c : W.heap[N]? = some (.cells #[.slice none 0 0, .int .i64 0, .int .i64 0, .slice none 0 0, .slice none 0 0, .int .i64 0, .slice none 0 0] 38 (0, 0))
 q : W.heap[p]? = some (.cells #[.slice none 0 0, .int .i64 0, .int .i64 0, .slice B n1 k1, .slice C n2 k2, .int .i64 each, .slice D n3 k3] 38 (0, 0))
 ne : N < p
theorem InRow.mono {W : World} {base base' : Nat} {v : Value} {xs : List In} (h : InRow W base v xs) (hb : base' ≤ base) : InRow W base' v xs := by
 obtain ⟨h1, h2⟩ := h
 refine ⟨h1, ?_⟩
 rcases h2 with h0 | ⟨g, cap, cur, e, hg, r⟩
 ·exact .inl h0
 ·exact .inr ⟨g, cap, cur, e, Nat.le_trans hb hg, r⟩
section
variable {w W W1 : World} {N p : Nat} {B C D : Option Addr} {n1 n2 n3 k1 k2 k3 : Nat} {each : Int}
theorem SpB.keep (h : SpB w W N p B C D n1 n2 n3 k1 k2 k3 each) (hb : Below W.heap.size W W1) : SpB w W1 N p B C D n1 n2 n3 k1 k2 k3 each :=
 ⟨h.b.trans (hb.mono (Nat.le_of_lt (blk_lt h.c))), blk_keep hb h.c, blk_keep hb h.q, h.ne⟩
theorem SpB.fin (h : SpB w W N p B C D n1 n2 n3 k1 k2 k3 each) {va : Value} {xs : List In} (l u : Int) (hr : InRow W N va xs) : ∀ W',
  W' = (((((((((W.setCell ⟨p, 0, none⟩ va).setCell ⟨p, 1, none⟩ (.int .i64 l)).setCell ⟨p, 2, none⟩ (.int .i64 u)).setCell ⟨N, 0, none⟩ va).setCell ⟨N, 1, none⟩ (.int .i64 l)).setCell ⟨N, 2, none⟩ (.int .i64 u)).setCell ⟨N, 3, none⟩ (.slice B n1 k1)).setCell ⟨N, 4, none⟩ (.slice C n2 k2)).setCell ⟨N, 5, none⟩ (.int .i64 each)).setCell ⟨N, 6, none⟩ (.slice D n3 k3) →
  W'.heap[N]? = some (.cells #[va, .int .i64 l, .int .i64 u, .slice B n1 k1, .slice C n2 k2, .int .i64 each, .slice D n3 k3] 38 (0, 0)) ∧ InRow W' N va xs ∧ Below N w W' := by
 rintro W' rfl
 have hne := h.ne
 have sb : ∀ (W : World) (g i : Nat) (x : Value), N ≤ g → Below N w W → Below N w (W.setCell ⟨g, i, none⟩ x) := fun W g i x hg h => h.setCell (show N ≤ g from hg) x
 have far : ∀ {W : World} {i : Nat} {o : Obj} (v : Value), W.heap[N]? = some o → (W.setCell ⟨p, i, none⟩ v).heap[N]? = some o := fun v hj => (Below.heap_setCell _ ⟨_, _, none⟩ v _ (show N ≠ p by omega)).trans hj
 have p0 := h.q
 have p1 := blk_set p0 0 va
 have p2 := blk_set p1 1 (.int .i64 l)
 have n0 := far (i := 2) (.int .i64 u) (far (i := 1) (.int .i64 l) (far (i := 0) va h.c))
 have m1 := blk_set n0 0 va
 have m2 := blk_set m1 1 (.int .i64 l)
 have m3 := blk_set m2 2 (.int .i64 u)
 have m4 := blk_set m3 3 (.slice B n1 k1)
 have m5 := blk_set m4 4 (.slice C n2 k2)
 have m6 := blk_set m5 5 (.int .i64 each)
 have r3 := row_set (row_set (row_set hr p0 (by decide) 0 va) p1 (by decide) 1 (.int .i64 l)) p2 (by decide) 2 (.int .i64 u)
 have r6 := row_set (row_set (row_set r3 n0 (by decide) 0 va) m1 (by decide) 1 (.int .i64 l)) m2 (by decide) 2 (.int .i64 u)
 have b3 := sb _ p 2 (.int .i64 u) (by omega) (sb _ p 1 (.int .i64 l) (by omega) (sb _ p 0 va (by omega) h.b))
 have b6 := sb _ N 2 (.int .i64 u) (by omega) (sb _ N 1 (.int .i64 l) (by omega) (sb _ N 0 va (by omega) b3))
 exact ⟨blk_set m6 6 (.slice D n3 k3), row_set (row_set (row_set (row_set r6 m3 (by decide) 3 _) m4 (by decide) 4 _) m5 (by decide) 5 _) m6 (by decide) 6 _,
  sb _ N 6 _ (by omega) (sb _ N 5 _ (by omega) (sb _ N 4 _ (by omega) (sb _ N 3 _ (by omega) b6)))⟩
end
end Go.Proofs.YtbhpkeiofajbpaaGreatDoor

namespace Go.Proofs.YtbhpkeiofajbpaaGreatDoor
open Go.RowKit Go.Proofs.YtbhpkeiofajbpaaGreatDoorW.PrintWords
set_option linter.unusedVariables false

end Go.Proofs.YtbhpkeiofajbpaaGreatDoor
end
/- Steps of a region that makes a spec, in any order. -/
section
namespace Go.Proofs.YtbhpkeiofajbpaaGreatDoor
open Go.RowKit Go.Proofs.YtbhpkeiofajbpaaGreatDoorW.PrintWords
set_option linter.unusedVariables false
set_option linter.unusedSimpArgs false
theorem SpB.far {w W : World} {N p g i : Nat} {B C D : Option Addr} {n1 n2 n3 k1 k2 k3 : Nat} {each : Int} {cs : Array Value} {t : TypeId} (h : SpB w W N p B C D n1 n2 n3 k1 k2 k3 each) (v : Value) (hg : N ≤ g) (hc : W.heap[g]? = some (.cells cs t (0, 0))) (ht : t ≠ 38) :
  SpB w (W.setCell ⟨g, i, none⟩ v) N p B C D n1 n2 n3 k1 k2 k3 each := by
 have ne : ∀ {j : Nat} {cs' : Array Value}, W.heap[j]? = some (.cells cs' 38 (0, 0)) → j ≠ g := fun hj e => by
  subst e
  rw [hc] at hj
  cases hj
  exact ht rfl
 exact ⟨h.b.setCell (show N ≤ g from hg) v, (Below.heap_setCell W ⟨g, i, none⟩ v _ (ne h.c)).trans h.c, (Below.heap_setCell W ⟨g, i, none⟩ v _ (ne h.q)).trans h.q, h.ne⟩
end Go.Proofs.YtbhpkeiofajbpaaGreatDoor
end
/- A spec with its rows: Sizes, Init, R7, cell by cell. -/
section
namespace Go.Proofs.YtbhpkeiofajbpaaGreatDoor
open Go.RowKit Go.Proofs.YtbhpkeiofajbpaaGreatDoorW.PrintWords
set_option linter.unusedVariables false
set_option linter.unusedSimpArgs false

/-- A row in a block of its own: n elements of one cell, the cells cs at its head. -/
def HRow (W : World) (v : Value) (t : TypeId) (cs : List Value) : Prop :=
 (cs = [] ∧ ∃ A c, v = .slice A 0 c) ∨ ∃ (g c : Nat) (arr : Array Value), v = .slice (some ⟨g, 0, none⟩) cs.length c ∧ cs.length ≤ c ∧ 0 < cs.length ∧ W.heap[g]? = some (.cells arr t (0, 0)) ∧ ∀ (j : Nat) (u : Value), cs[j]? = some u → arr[j]? = some u
theorem HRow.keep {W W1 : World} {v : Value} {t : TypeId} {cs : List Value} (h : HRow W v t cs) (hb : Below W.heap.size W W1) : HRow W1 v t cs := by
 rcases h with h | ⟨g, c, arr, h1, h2, h3, h4, h5⟩
 ·exact .inl h
 ·exact .inr ⟨g, c, arr, h1, h2, h3, blk_keep hb h4, h5⟩
theorem HRow.far {W : World} {v x : Value} {t t' : TypeId} {cs : List Value} {g i : Nat} {arr : Array Value} (h : HRow W v t cs) (hg : W.heap[g]? = some (.cells arr t' (0, 0))) (ht : t ≠ t') : HRow (W.setCell ⟨g, i, none⟩ x) v t cs := by
 rcases h with h | ⟨g', c, arr', h1, h2, h3, h4, h5⟩
 ·exact .inl h
 ·refine .inr ⟨g', c, arr', h1, h2, h3, (Below.heap_setCell W ⟨g, i, none⟩ x g' (fun e => ?_)).trans h4, h5⟩
  have e' : g' = g := e
  subst e'
  rw [hg] at h4
  cases h4
  exact ht rfl
theorem HRow.rd {W : World} {v : Value} {t : TypeId} {cs : List Value} (h : HRow W v t cs) : RdRow W v cs.length cs := by
 rcases h with ⟨rfl, h⟩ | ⟨g, c, arr, h1, h2, h3, h4, h5⟩
 ·exact .inl ⟨rfl, h⟩
 ·exact .inr ⟨g, c, h1, h2, h3, fun j u hj => (blk_cell h4 j).trans (h5 j u hj)⟩
theorem HRow.new {W : World} {g n : Nat} {t : TypeId} {arr : Array Value} (cs : List Value) (hg : W.heap[g]? = some (.cells arr t (0, 0))) (hn : cs.length = n) (h0 : 0 < n) (h : ∀ (j : Nat) (u : Value), cs[j]? = some u → arr[j]? = some u) : HRow W (.slice (some ⟨g, 0, none⟩) n n) t cs := by
 subst hn
 exact .inr ⟨g, _, arr, rfl, Nat.le_refl _, h0, hg, h⟩
/-- A row of zero words. -/
theorem HRow.zeros {W : World} {g k : Nat} {arr : Array Value} (hg : W.heap[g]? = some (.cells arr 22 (0, 0))) (h0 : 0 < k) (h : ∀ j, j < k → arr[j]? = some (.int .u32 0)) : HRow W (.slice (some ⟨g, 0, none⟩) k k) 22 ((List.replicate k (0 : Int)).map (Value.int .u32)) := by
 refine HRow.new _ hg (by simp) h0 (fun j u hj => ?_)
 rw [List.map_replicate, List.getElem?_replicate] at hj
 by_cases hl : j < k
 ·rw [if_pos hl] at hj; cases hj; exact h j hl
 ·rw [if_neg hl] at hj; cases hj
theorem HRow.off {W : World} {v x : Value} {t : TypeId} {cs : List Value} {g i : Nat} (h : HRow W v t cs) (hne : ∀ g' n c, v = .slice (some ⟨g', 0, none⟩) n c → g' ≠ g) : HRow (W.setCell ⟨g, i, none⟩ x) v t cs := by
 rcases h with h | ⟨g', c, arr', h1, h2, h3, h4, h5⟩
 ·exact .inl h
 ·exact .inr ⟨g', c, arr', h1, h2, h3, (Below.heap_setCell W ⟨g, i, none⟩ x g' (hne _ _ _ h1)).trans h4, h5⟩
theorem HRow.put {W : World} {x : Value} {t : TypeId} {cs : List Value} {g i n c : Nat} (h : HRow W (.slice (some ⟨g, 0, none⟩) n c) t cs) : HRow (W.setCell ⟨g, i, none⟩ x) (.slice (some ⟨g, 0, none⟩) n c) t (cs.set i x) := by
 rcases h with ⟨rfl, h⟩ | ⟨g', c', arr', h1, h2, h3, h4, h5⟩
 ·exact .inl ⟨rfl, h⟩
 ·have e : g = g' := by injection h1 with a; injection a with a; injection a
  subst e
  refine .inr ⟨g, c', _, by rw [List.length_set]; exact h1, by rw [List.length_set]; exact h2, by rw [List.length_set]; exact h3, blk_set h4 i x, fun j u hj => ?_⟩
  by_cases hji : i = j
  ·subst hji
   have hlt : i < (cs.set i x).length := (List.getElem?_eq_some_iff.1 hj).1
   rw [List.length_set] at hlt
   rw [List.getElem?_set_self hlt] at hj
   cases hj
   have hs : i < arr'.size := by
    have := h5 i cs[i] (List.getElem?_eq_getElem hlt)
    exact (Array.getElem?_eq_some_iff.1 this).1
   simp [hs]
  ·rw [List.getElem?_set_ne hji] at hj
   rw [Array.getElem?_setIfInBounds_ne hji]
   exact h5 j u hj
end Go.Proofs.YtbhpkeiofajbpaaGreatDoor
end

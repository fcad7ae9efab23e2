/- Parts: RefParseKit, RefSwitchKit. -/
import Derived.Test.YtbhpkeiofajbpaaGreatDoorB31
import Derived.Test.YtbhpkeiofajbpaaGreatDoorB04
import Derived.Test.YtbhpkeiofajbpaaGreatDoorB38
import Derived.Test.YtbhpkeiofajbpaaGreatDoorB02
import Derived.Test.YtbhpkeiofajbpaaGreatDoorB14
/- ropelineref06.Parse: what its walk holds. -/
section
namespace Go.Proofs.YtbhpkeiofajbpaaGreatDoor
open Go.RowKit Go.Proofs.YtbhpkeiofajbpaaGreatDoorW.PrintWords
set_option linter.unusedVariables false
set_option linter.unusedSimpArgs false

def blkOf (n : Nat) : Code → Option Code
 | .seq a b => match blkOf n a with
  | some c => some c
  | none => blkOf n b
 | .cond _ a b => match blkOf n a with
  | some c => some c
  | none => blkOf n b
 | .block m c => if m = n then some (.block m c) else blkOf n c
 | .loop c => blkOf n c
 | _ => none
/-- The switch of Parse: its block 8. -/
noncomputable def refSwitch : Code := ((Tryz.f85.body.bind (blkOf 8)).getD .skip)
theorem setF_0 (k x0 x1 x2 x3 y0 y1 : Int) : setF 0 k x0 x1 x2 x3 y0 y1 = ⟨0, 0, 0, 0, 0, 0, k, 0⟩ := by simp [setF]
theorem setF_1 (k x0 x1 x2 x3 y0 y1 : Int) : setF 1 k x0 x1 x2 x3 y0 y1 = ⟨1, x0, x1, x2, 0, 0, y0 % 4294967296, 0⟩ := by simp [setF]
theorem setF_2 (k x0 x1 x2 x3 y0 y1 : Int) : setF 2 k x0 x1 x2 x3 y0 y1 = ⟨2, x0, x1, x2, 0, 0, k, 0⟩ := by simp [setF]
theorem setF_3 (k x0 x1 x2 x3 y0 y1 : Int) : setF 3 k x0 x1 x2 x3 y0 y1 = ⟨3, x0, x1, x2, 0, 0, y0 % 4294967296, 0⟩ := by simp [setF]
theorem setF_4 (k x0 x1 x2 x3 y0 y1 : Int) : setF 4 k x0 x1 x2 x3 y0 y1 = ⟨4, x0, x1, x2, 0, 0, y0 % 4294967296, 0⟩ := by simp [setF]
theorem setF_5 (k x0 x1 x2 x3 y0 y1 : Int) : setF 5 k x0 x1 x2 x3 y0 y1 = ⟨5, x0, x1, x2, 0, 0, y0 % 4294967296, 0⟩ := by simp [setF]
theorem setF_6 (k x0 x1 x2 x3 y0 y1 : Int) : setF 6 k x0 x1 x2 x3 y0 y1 = ⟨6, x0, x1, x2, 0, 0, y0 % 4294967296, 0⟩ := by simp [setF]
theorem setF_7 (k x0 x1 x2 x3 y0 y1 : Int) : setF 7 k x0 x1 x2 x3 y0 y1 = ⟨7, x0, x1, x2, 0, 0, k, 0⟩ := by simp [setF]
theorem setF_8 (k x0 x1 x2 x3 y0 y1 : Int) : setF 8 k x0 x1 x2 x3 y0 y1 = ⟨8, 0, x0, x1, 0, 0, k, y0⟩ := by simp [setF]
theorem setF_9 (k x0 x1 x2 x3 y0 y1 : Int) : setF 9 k x0 x1 x2 x3 y0 y1 = ⟨9, 0, x0, x1, 0, 0, k, y0⟩ := by simp [setF]
theorem setF_10 (k x0 x1 x2 x3 y0 y1 : Int) : setF 10 k x0 x1 x2 x3 y0 y1 = ⟨10, 0, x0, x1, 0, 0, k, y0⟩ := by simp [setF]
theorem setF_11 (k x0 x1 x2 x3 y0 y1 : Int) : setF 11 k x0 x1 x2 x3 y0 y1 = ⟨11, x0, x1, x2, 0, 0, k, 0⟩ := by simp [setF]
theorem setF_12 (k x0 x1 x2 x3 y0 y1 : Int) : setF 12 k x0 x1 x2 x3 y0 y1 = ⟨12, 0, 0, 0, 0, 0, y0 % 4294967296, 0⟩ := by simp [setF]
theorem setF_13 (k x0 x1 x2 x3 y0 y1 : Int) : setF 13 k x0 x1 x2 x3 y0 y1 = ⟨13, 0, 0, 0, 0, 0, y0 % 4294967296, 0⟩ := by simp [setF]
theorem setF_16 (k x0 x1 x2 x3 y0 y1 : Int) : setF 16 k x0 x1 x2 x3 y0 y1 = ⟨16, x0, x1, x2, x3, y0, k, 0⟩ := by simp [setF]
theorem setF_17 (k x0 x1 x2 x3 y0 y1 : Int) : setF 17 k x0 x1 x2 x3 y0 y1 = ⟨17, 0, x0, x1, 0, y0, k, 0⟩ := by simp [setF]
theorem setF_18 (k x0 x1 x2 x3 y0 y1 : Int) : setF 18 k x0 x1 x2 x3 y0 y1 = ⟨18, x0, x1, x2, x3, y0, k, 0⟩ := by simp [setF]
theorem setF_19 (k x0 x1 x2 x3 y0 y1 : Int) : setF 19 k x0 x1 x2 x3 y0 y1 = ⟨19, x0, x1, x2, x3, y0, k, 0⟩ := by simp [setF]
theorem setF_20 (k x0 x1 x2 x3 y0 y1 : Int) : setF 20 k x0 x1 x2 x3 y0 y1 = ⟨20, x0, x1, x2, x3, y0, y1 % 4294967296, 0⟩ := by simp [setF]
theorem setF_21 (k x0 x1 x2 x3 y0 y1 : Int) : setF 21 k x0 x1 x2 x3 y0 y1 = ⟨21, x0, x1, x2, x3, y0, k, y1⟩ := by simp [setF]
theorem setF_22 (k x0 x1 x2 x3 y0 y1 : Int) : setF 22 k x0 x1 x2 x3 y0 y1 = ⟨22, x0, x1, x2, 0, 0, k, 0⟩ := by simp [setF]
theorem setF_23 (k x0 x1 x2 x3 y0 y1 : Int) : setF 23 k x0 x1 x2 x3 y0 y1 = ⟨23, 0, x0, 0, 0, 0, k, 0⟩ := by simp [setF]
/-- What the walk holds: the result's box, the instruction's, the words' row. -/
structure PInv (w W : World) (g5 : Nat) (i : In) (gw : Nat) (cw : Array Value) : Prop where
 b : Below w.heap.size w W
 z : W.heap[w.heap.size]? = some (.cells In.zero.cs 114 (0, 0))
 i : W.heap[g5]? = some (.cells i.cs 114 (0, 0))
 n : w.heap.size < g5
 r : W.heap[gw]? = some (.cells cw 9 (0, 0))
theorem PInv.keep {w W W1 : World} {g5 gw : Nat} {i : In} {cw : Array Value} (h : PInv w W g5 i gw cw) (hb : Below W.heap.size W W1) : PInv w W1 g5 i gw cw :=
 ⟨h.b.trans (hb.mono h.b.size), blk_keep hb h.z, blk_keep hb h.i, h.n, blk_keep hb h.r⟩
theorem PInv.drew {w W : World} {g5 gw : Nat} {i : In} {cw : Array Value} (h : PInv w W g5 i gw cw) : PInv w W.drew g5 i gw cw := ⟨below_drew h.b, blk_drew h.z, blk_drew h.i, h.n, blk_drew h.r⟩
theorem PInv.grown {w W W1 : World} {g5 gw : Nat} {i : In} {cw : Array Value} {v : Value} {xs : List Int} (h : PInv w W g5 i gw cw) (hr : IntRow W w.heap.size v xs) (hg : W.grownBy W1 v.ownBlock) : PInv w W1 g5 i gw cw :=
 ⟨h.b.grown hg h.b.size (fun k hk => own_base hr k hk), blk_grown h.z hg (own_apart hr h.z (by decide)), blk_grown h.i hg (own_apart hr h.i (by decide)), h.n, blk_grown h.r hg (own_apart hr h.r (by decide))⟩
theorem PInv.put {w W : World} {g5 gw : Nat} {i : In} {cw : Array Value} (h : PInv w W g5 i gw cw) (j : Nat) (u : Value) (i' : In) (he : i'.cs = i.cs.setIfInBounds j u) : PInv w (W.setCell ⟨g5, j, none⟩ u) g5 i' gw cw :=
 ⟨h.b.setCell (Nat.le_of_lt h.n) u, blk_far h.z (show w.heap.size ≠ g5 from Nat.ne_of_lt h.n) u, by rw [he]; exact blk_set h.i j u, h.n, blk_far h.r (blk_ne h.r h.i (by decide)) u⟩

theorem getp {α : Type} {l : List α} {i : Nat} {o : α} (h : l[i]? = some o) : l.toArray[i]? = some o := by simpa using h
theorem pinv_next {w W W1 : World} {g5 gw : Nat} {i : In} {cw : Array Value} {x : Value} (hb : Below W.heap.size W W1) (h : Aside0 (PInv w W g5 i gw cw) ∧ W.cell? ⟨gw, 0, none⟩ = some x) : Aside0 (PInv w W1 g5 i gw cw) ∧ W1.cell? ⟨gw, 0, none⟩ = some x :=
 ⟨⟨h.1.out.keep hb⟩, (blk_cell (h.1.out.keep hb).r 0).trans ((blk_cell h.1.out.r 0).symm.trans h.2)⟩

theorem padTo_step {n : Nat} {v : Int} {l : List Int} (h : l.length < n) : padTo n v (l ++ [v]) = padTo n v l := by
 unfold padTo
 rw [List.length_append, List.length_singleton, List.append_assoc, show n - l.length = (n - (l.length + 1)) + 1 by omega, List.replicate_succ]
 rfl
theorem padTo_full {n : Nat} {v : Int} {l : List Int} (h : n ≤ l.length) : padTo n v l = l := by
 unfold padTo
 rw [show n - l.length = 0 by omega]
 simp
def sliceLen : Value → Nat
 | .slice _ n _ => n
 | _ => 0
theorem keep4 {W : World} {g7 g5 : Nat} {x0 x1 x2 x3 : Int} (hne : g7 ≠ g5) (j : Nat) (u : Value)
  (h : W.cell? ⟨g7, 0, none⟩ = some (.int .i64 x0) ∧ W.cell? ⟨g7, 1, none⟩ = some (.int .i64 x1) ∧ W.cell? ⟨g7, 2, none⟩ = some (.int .i64 x2) ∧ W.cell? ⟨g7, 3, none⟩ = some (.int .i64 x3)) :
  (W.setCell ⟨g5, j, none⟩ u).cell? ⟨g7, 0, none⟩ = some (.int .i64 x0) ∧ (W.setCell ⟨g5, j, none⟩ u).cell? ⟨g7, 1, none⟩ = some (.int .i64 x1) ∧ (W.setCell ⟨g5, j, none⟩ u).cell? ⟨g7, 2, none⟩ = some (.int .i64 x2) ∧ (W.setCell ⟨g5, j, none⟩ u).cell? ⟨g7, 3, none⟩ = some (.int .i64 x3) := by
 have e : (W.setCell ⟨g5, j, none⟩ u).heap[g7]? = W.heap[g7]? := Below.heap_setCell W _ u g7 hne
 exact ⟨(World.cell?_of_block (w := W) (a := ⟨g7, 0, none⟩) e).trans h.1, (World.cell?_of_block (w := W) (a := ⟨g7, 1, none⟩) e).trans h.2.1, (World.cell?_of_block (w := W) (a := ⟨g7, 2, none⟩) e).trans h.2.2.1, (World.cell?_of_block (w := W) (a := ⟨g7, 3, none⟩) e).trans h.2.2.2⟩
theorem keep4d {W : World} {g7 g5 : Nat} {x0 x1 x2 x3 : Int} (hne : g7 ≠ g5) (j : Nat) (u : Value)
  (h : W.drew.cell? ⟨g7, 0, none⟩ = some (.int .i64 x0) ∧ W.drew.cell? ⟨g7, 1, none⟩ = some (.int .i64 x1) ∧ W.drew.cell? ⟨g7, 2, none⟩ = some (.int .i64 x2) ∧ W.drew.cell? ⟨g7, 3, none⟩ = some (.int .i64 x3)) :
  (W.setCell ⟨g5, j, none⟩ u).drew.cell? ⟨g7, 0, none⟩ = some (.int .i64 x0) ∧ (W.setCell ⟨g5, j, none⟩ u).drew.cell? ⟨g7, 1, none⟩ = some (.int .i64 x1) ∧ (W.setCell ⟨g5, j, none⟩ u).drew.cell? ⟨g7, 2, none⟩ = some (.int .i64 x2) ∧ (W.setCell ⟨g5, j, none⟩ u).drew.cell? ⟨g7, 3, none⟩ = some (.int .i64 x3) := keep4 (W := W) hne j u h
theorem nameGo_cases (w : List UInt8) : ∀ (n : Nat) (op acc : Int), nameGo w n op acc = acc ∨ opName (nameGo w n op acc) ≠ []
 | 0, op, acc => .inl rfl
 | n + 1, op, acc => by
  rw [nameGo]
  by_cases h : opName op ≠ [] ∧ opName op = w
  ·rw [if_pos h]
   rcases nameGo_cases w n (op + 1) op with h1 | h1
   ·rw [h1]; exact .inr h.1
   ·exact .inr h1
  ·rw [if_neg h]; exact nameGo_cases w n (op + 1) acc
theorem nameL_cases (w : List UInt8) : nameL w = 0 ∨ (1 ≤ nameL w ∧ nameL w ≤ 13) ∨ (16 ≤ nameL w ∧ nameL w ≤ 23) := by
 rcases nameGo_cases w 23 1 0 with h | h
 ·exact .inl h
 ·exact .inr (opName_in h)
theorem PInv.putj {w W : World} {g5 gw : Nat} {i : In} {cw : Array Value} (h : PInv w W g5 i gw cw) (j : Nat) (h1 : 1 ≤ j) (h5 : j ≤ 5) (v : Int) : PInv w (W.setCell ⟨g5, j, none⟩ (.int .i64 v)) g5 (i.put v j) gw cw :=
 h.put j _ _ (In.cs_put _ _ _ h1 h5).symm
theorem PInv.putk {w W : World} {g5 gw : Nat} {i : In} {cw : Array Value} (h : PInv w W g5 i gw cw) (v : Int) : PInv w (W.setCell ⟨g5, 6, none⟩ (.int .u32 v)) g5 { i with k := v } gw cw := h.put 6 _ _ rfl
theorem PInv.putq {w W : World} {g5 gw : Nat} {i : In} {cw : Array Value} (h : PInv w W g5 i gw cw) (v : Int) : PInv w (W.setCell ⟨g5, 7, none⟩ (.int .i64 v)) g5 { i with q := v } gw cw := h.put 7 _ _ rfl
theorem setF_wk (op k x0 x1 x2 x3 y0 y1 : Int) (hk : k = 0 ∨ k = 1) : (setF op k x0 x1 x2 x3 y0 y1).wk := by
 have hk' : 0 ≤ k ∧ k ≤ 4294967295 := by omega
 have h0 : 0 ≤ y0 % 4294967296 ∧ y0 % 4294967296 ≤ 4294967295 := by omega
 have h1 : 0 ≤ y1 % 4294967296 ∧ y1 % 4294967296 ≤ 4294967295 := by omega
 unfold setF In.wk
 repeat (first | split | assumption)
theorem str_tail (g m c : Nat) (hc : m + 1 ≤ c) : ∃ (A' : Option Addr) (c' : Nat), (∀ W : World, (Instr.slice 102 (.slice (some ⟨g, 0, none⟩) (m + 1) c) (some (.int .i64 1)) none none).run Tryz.prog W = .ok (.slice A' m c') W) ∧ (0 < m → A' = some ⟨g, 1, none⟩) := by
 refine ⟨if c = 1 then some ⟨g, 0, none⟩ else some ⟨g, 1, none⟩, c - 1, fun W => ?_, fun h => if_neg (by omega)⟩
 obtain ⟨i9, hi, hz0, hz1, hz2⟩ := info_parts info_str
 have hel : Tryz.prog.elem 102 = 9 := by simp [Program.elem, Tryz.underlying102]
 have hu : Tryz.prog.underlying 102 = some (.slice (Tryz.prog.elem 102)) := by rw [hel]; exact Tryz.underlying102
 rw [run_slice_l W 102 (some ⟨g, 0, none⟩) (m + 1) c hu .i64 1 (by omega) (by omega), hel]
 by_cases h1 : c = 1
 ·subst h1
  have : m = 0 := by omega
  subst this
  simp [sizeOf, typeInfo, hi, hz1, sliced, Result.andThen]
 ·rw [if_neg h1]
  simp [sizeOf, typeInfo, hi, hz1, sliced, Result.andThen, h1, Addr.add]

end Go.Proofs.YtbhpkeiofajbpaaGreatDoor
end
/- The switch of ropelineref06.Parse: what is said of it. -/
section
namespace Go.Proofs.YtbhpkeiofajbpaaGreatDoor
open Go.RowKit Go.Proofs.YtbhpkeiofajbpaaGreatDoorW.PrintWords
set_option linter.unusedVariables false
set_option linter.unusedSimpArgs false

/-- The switch of Parse does its work for an op. -/
def SwOk (op : Int) : Prop := ∀ (w w5 : World) (g5 g7 n7 c7 g : Nat) (cur : Array Value) (k x0 x1 x2 x3 y0 y1 : Int) (_ : Aside0 (PInv w w5 g5 { In.zero with op := op, k := k } g cur)) (_ : 4 ≤ n7) (_ : g7 ≠ g5)
  (_ : w5.cell? ⟨g7, 0, none⟩ = some (.int .i64 x0)) (_ : w5.cell? ⟨g7, 1, none⟩ = some (.int .i64 x1)) (_ : w5.cell? ⟨g7, 2, none⟩ = some (.int .i64 x2)) (_ : w5.cell? ⟨g7, 3, none⟩ = some (.int .i64 x3))
  (Q : Exit → Act → World → Prop)
  (t0 t1 t2 t3 t4 t6 t8 t9 t10 t11 t12 t15 t16 t17 t18 t19 t20 t21 t22 t23 t24 t25 t26 t27 t28 t29 t30 t31 t32 t33 t34 t35 t36 t37 t38 t39 t40 t41 t42 t43 t44 t45 t46 t47 t48 t49 t50 t51 t52 t53 t54 t55 t56 t57 t58 t59 t60 t61 t62 t63 t64 t65 t66 t67 t68 t69 t70 t71 t72 t73 t74 t75 t76 t77 t78 t79 t80 t81 t82 t83 t84 t85 t86 t87 t89 t90 t91 t92 t93 t94 t95 t96 t97 t98 t99 t100 t101 t102 t103 t104 t105 t106 t107 t108 t109 t110 t111 t112 t113 t114 t115 t116 t117 t118 t119 t120 t121 t122 t123 t124 t125 t126 t127 t128 t129 t130 t131 t132 t133 t134 t135 t136 t137 t138 t139 t140 t141 t142 t143 t144 t145 t146 t147 t148 t149 t150 t151 t152 t153 t154 t155 t156 t157 t158 t159 t160 t161 t162 t163 t164 t165 t166 t167 t168 t169 t170 t171 t172 t173 t174 t175 t176 t177 t178 t179 t180 t181 t182 t183 t184 t185 t186 t187 t188 t189 t190 t191 t192 t193 t194 t195 t196 t197 t198 t199 t200 t201 t202 t203 t204 t205 t206 t207 t208 t209 t210 t211 t212 t213 t214 t215 : Value)
  (_ : ∀ (s89 s90 s91 s92 s93 s94 s95 s96 s97 s98 s99 s100 s101 s102 s103 s104 s105 s106 s107 s108 s109 s110 s111 s112 s113 s114 s115 s116 s117 s118 s119 s120 s121 s122 s123 s124 s125 s126 s127 s128 s129 s130 s131 s132 s133 s134 s135 s136 s137 s138 s139 s140 s141 s142 s143 s144 s145 s146 s147 s148 s149 s150 s151 s152 s153 s154 s155 s156 s157 s158 s159 s160 s161 s162 s163 s164 s165 s166 s167 s168 s169 s170 s171 s172 s173 s174 s175 s176 s177 s178 s179 s180 s181 s182 s183 s184 s185 s186 s187 s188 s189 s190 s191 s192 s193 s194 s195 s196 s197 s198 s199 s200 s201 s202 s203 s204 : Value) (w' : World), Aside0 (PInv w w' g5 (setF op k x0 x1 x2 x3 y0 y1) g cur) → Q .normal ⟨#[t0, t1, t2, t3, t4, .pointer (some ⟨g5, 0, none⟩), t6, .slice (some ⟨g7, 0, none⟩) n7 c7, t8, t9, t10, t11, t12, .int .i64 y0, .int .i64 y1, t15, t16, t17, t18, t19, t20, t21, t22, t23, t24, t25, t26, t27, t28, t29, t30, t31, t32, t33, t34, t35, t36, t37, t38, t39, t40, t41, t42, t43, t44, t45, t46, t47, t48, t49, t50, t51, t52, t53, t54, t55, t56, t57, t58, t59, t60, t61, t62, t63, t64, t65, t66, t67, t68, t69, t70, t71, t72, t73, t74, t75, t76, t77, t78, t79, t80, t81, t82, t83, t84, t85, t86, t87, .int .i64 op, s89, s90, s91, s92, s93, s94, s95, s96, s97, s98, s99, s100, s101, s102, s103, s104, s105, s106, s107, s108, s109, s110, s111, s112, s113, s114, s115, s116, s117, s118, s119, s120, s121, s122, s123, s124, s125, s126, s127, s128, s129, s130, s131, s132, s133, s134, s135, s136, s137, s138, s139, s140, s141, s142, s143, s144, s145, s146, s147, s148, s149, s150, s151, s152, s153, s154, s155, s156, s157, s158, s159, s160, s161, s162, s163, s164, s165, s166, s167, s168, s169, s170, s171, s172, s173, s174, s175, s176, s177, s178, s179, s180, s181, s182, s183, s184, s185, s186, s187, s188, s189, s190, s191, s192, s193, s194, s195, s196, s197, s198, s199, s200, s201, s202, s203, s204, t205, t206, t207, t208, t209, t210, t211, t212, t213, t214, t215], []⟩ w'),
  Code.wp Tryz.prog refSwitch Q ⟨#[t0, t1, t2, t3, t4, .pointer (some ⟨g5, 0, none⟩), t6, .slice (some ⟨g7, 0, none⟩) n7 c7, t8, t9, t10, t11, t12, .int .i64 y0, .int .i64 y1, t15, t16, t17, t18, t19, t20, t21, t22, t23, t24, t25, t26, t27, t28, t29, t30, t31, t32, t33, t34, t35, t36, t37, t38, t39, t40, t41, t42, t43, t44, t45, t46, t47, t48, t49, t50, t51, t52, t53, t54, t55, t56, t57, t58, t59, t60, t61, t62, t63, t64, t65, t66, t67, t68, t69, t70, t71, t72, t73, t74, t75, t76, t77, t78, t79, t80, t81, t82, t83, t84, t85, t86, t87, .int .i64 op, t89, t90, t91, t92, t93, t94, t95, t96, t97, t98, t99, t100, t101, t102, t103, t104, t105, t106, t107, t108, t109, t110, t111, t112, t113, t114, t115, t116, t117, t118, t119, t120, t121, t122, t123, t124, t125, t126, t127, t128, t129, t130, t131, t132, t133, t134, t135, t136, t137, t138, t139, t140, t141, t142, t143, t144, t145, t146, t147, t148, t149, t150, t151, t152, t153, t154, t155, t156, t157, t158, t159, t160, t161, t162, t163, t164, t165, t166, t167, t168, t169, t170, t171, t172, t173, t174, t175, t176, t177, t178, t179, t180, t181, t182, t183, t184, t185, t186, t187, t188, t189, t190, t191, t192, t193, t194, t195, t196, t197, t198, t199, t200, t201, t202, t203, t204, t205, t206, t207, t208, t209, t210, t211, t212, t213, t214, t215], []⟩ w5
theorem sw_cells {w W : World} {g5 g : Nat} {op k : Int} {cur : Array Value} (h : PInv w W g5 { In.zero with op := op, k := k } g cur) (j : Nat) (v : Value) (hv : (In.cs { In.zero with op := op, k := k })[j]? = some v) : W.frozen? ⟨g5, j, none⟩ = false ∧ W.cell? ⟨g5, j, none⟩ = some v :=
 ⟨blk_frozen h.i j, (blk_cell h.i j).trans hv⟩
abbrev S4 (g7 : Nat) (x0 x1 x2 x3 : Int) (W : World) : Prop := W.cell? ⟨g7, 0, none⟩ = some (.int .i64 x0) ∧ W.cell? ⟨g7, 1, none⟩ = some (.int .i64 x1) ∧ W.cell? ⟨g7, 2, none⟩ = some (.int .i64 x2) ∧ W.cell? ⟨g7, 3, none⟩ = some (.int .i64 x3)
end Go.Proofs.YtbhpkeiofajbpaaGreatDoor
end

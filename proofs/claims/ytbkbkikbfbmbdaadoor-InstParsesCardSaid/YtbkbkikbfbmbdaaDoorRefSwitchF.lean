/- The switch of ropelineref06.Parse, op by op. -/
import Derived.Test.YtbkbkikbfbmbdaaDoorRefParseKit
namespace Go.Proofs.YtbkbkikbfbmbdaaDoor
open Go.RowKit Go.Proofs.YtbkbkikbfbmbdaaDoorW.PrintWords
set_option linter.unusedVariables false
set_option linter.unusedSimpArgs false

set_option maxHeartbeats 4000000 in
set_option maxRecDepth 100000 in
theorem sw_21 (w w5 : World) (g5 g7 n7 c7 g : Nat) (cur : Array Value) (k x0 x1 x2 x3 y0 y1 : Int) (HI : Aside0 (PInv w w5 g5 { In.zero with op := 21, k := k } g cur)) (h4 : 4 ≤ n7) (hne : g7 ≠ g5)
    (r0' : w5.cell? ⟨g7, 0, none⟩ = some (.int .i64 x0)) (r1' : w5.cell? ⟨g7, 1, none⟩ = some (.int .i64 x1)) (r2' : w5.cell? ⟨g7, 2, none⟩ = some (.int .i64 x2)) (r3' : w5.cell? ⟨g7, 3, none⟩ = some (.int .i64 x3))
    (Q : Exit → Act → World → Prop)
    (t0 t1 t2 t3 t4 t6 t8 t9 t10 t11 t12 t15 t16 t17 t18 t19 t20 t21 t22 t23 t24 t25 t26 t27 t28 t29 t30 t31 t32 t33 t34 t35 t36 t37 t38 t39 t40 t41 t42 t43 t44 t45 t46 t47 t48 t49 t50 t51 t52 t53 t54 t55 t56 t57 t58 t59 t60 t61 t62 t63 t64 t65 t66 t67 t68 t69 t70 t71 t72 t73 t74 t75 t76 t77 t78 t79 t80 t81 t82 t83 t84 t85 t86 t87 t89 t90 t91 t92 t93 t94 t95 t96 t97 t98 t99 t100 t101 t102 t103 t104 t105 t106 t107 t108 t109 t110 t111 t112 t113 t114 t115 t116 t117 t118 t119 t120 t121 t122 t123 t124 t125 t126 t127 t128 t129 t130 t131 t132 t133 t134 t135 t136 t137 t138 t139 t140 t141 t142 t143 t144 t145 t146 t147 t148 t149 t150 t151 t152 t153 t154 t155 t156 t157 t158 t159 t160 t161 t162 t163 t164 t165 t166 t167 t168 t169 t170 t171 t172 t173 t174 t175 t176 t177 t178 t179 t180 t181 t182 t183 t184 t185 t186 t187 t188 t189 t190 t191 t192 t193 t194 t195 t196 t197 t198 t199 t200 t201 t202 t203 t204 t205 t206 t207 t208 t209 t210 t211 t212 t213 t214 t215 : Value)
    (hQ : ∀ (s89 s90 s91 s92 s93 s94 s95 s96 s97 s98 s99 s100 s101 s102 s103 s104 s105 s106 s107 s108 s109 s110 s111 s112 s113 s114 s115 s116 s117 s118 s119 s120 s121 s122 s123 s124 s125 s126 s127 s128 s129 s130 s131 s132 s133 s134 s135 s136 s137 s138 s139 s140 s141 s142 s143 s144 s145 s146 s147 s148 s149 s150 s151 s152 s153 s154 s155 s156 s157 s158 s159 s160 s161 s162 s163 s164 s165 s166 s167 s168 s169 s170 s171 s172 s173 s174 s175 s176 s177 s178 s179 s180 s181 s182 s183 s184 s185 s186 s187 s188 s189 s190 s191 s192 s193 s194 s195 s196 s197 s198 s199 s200 s201 s202 s203 s204 : Value) (w' : World), Aside0 (PInv w w' g5 (setF 21 k x0 x1 x2 x3 y0 y1) g cur) → Q .normal ⟨#[t0, t1, t2, t3, t4, .pointer (some ⟨g5, 0, none⟩), t6, .slice (some ⟨g7, 0, none⟩) n7 c7, t8, t9, t10, t11, t12, .int .i64 y0, .int .i64 y1, t15, t16, t17, t18, t19, t20, t21, t22, t23, t24, t25, t26, t27, t28, t29, t30, t31, t32, t33, t34, t35, t36, t37, t38, t39, t40, t41, t42, t43, t44, t45, t46, t47, t48, t49, t50, t51, t52, t53, t54, t55, t56, t57, t58, t59, t60, t61, t62, t63, t64, t65, t66, t67, t68, t69, t70, t71, t72, t73, t74, t75, t76, t77, t78, t79, t80, t81, t82, t83, t84, t85, t86, t87, .int .i64 21, s89, s90, s91, s92, s93, s94, s95, s96, s97, s98, s99, s100, s101, s102, s103, s104, s105, s106, s107, s108, s109, s110, s111, s112, s113, s114, s115, s116, s117, s118, s119, s120, s121, s122, s123, s124, s125, s126, s127, s128, s129, s130, s131, s132, s133, s134, s135, s136, s137, s138, s139, s140, s141, s142, s143, s144, s145, s146, s147, s148, s149, s150, s151, s152, s153, s154, s155, s156, s157, s158, s159, s160, s161, s162, s163, s164, s165, s166, s167, s168, s169, s170, s171, s172, s173, s174, s175, s176, s177, s178, s179, s180, s181, s182, s183, s184, s185, s186, s187, s188, s189, s190, s191, s192, s193, s194, s195, s196, s197, s198, s199, s200, s201, s202, s203, s204, t205, t206, t207, t208, t209, t210, t211, t212, t213, t214, t215], []⟩ w') :
    Code.wp Tryd.prog refSwitch Q ⟨#[t0, t1, t2, t3, t4, .pointer (some ⟨g5, 0, none⟩), t6, .slice (some ⟨g7, 0, none⟩) n7 c7, t8, t9, t10, t11, t12, .int .i64 y0, .int .i64 y1, t15, t16, t17, t18, t19, t20, t21, t22, t23, t24, t25, t26, t27, t28, t29, t30, t31, t32, t33, t34, t35, t36, t37, t38, t39, t40, t41, t42, t43, t44, t45, t46, t47, t48, t49, t50, t51, t52, t53, t54, t55, t56, t57, t58, t59, t60, t61, t62, t63, t64, t65, t66, t67, t68, t69, t70, t71, t72, t73, t74, t75, t76, t77, t78, t79, t80, t81, t82, t83, t84, t85, t86, t87, .int .i64 21, t89, t90, t91, t92, t93, t94, t95, t96, t97, t98, t99, t100, t101, t102, t103, t104, t105, t106, t107, t108, t109, t110, t111, t112, t113, t114, t115, t116, t117, t118, t119, t120, t121, t122, t123, t124, t125, t126, t127, t128, t129, t130, t131, t132, t133, t134, t135, t136, t137, t138, t139, t140, t141, t142, t143, t144, t145, t146, t147, t148, t149, t150, t151, t152, t153, t154, t155, t156, t157, t158, t159, t160, t161, t162, t163, t164, t165, t166, t167, t168, t169, t170, t171, t172, t173, t174, t175, t176, t177, t178, t179, t180, t181, t182, t183, t184, t185, t186, t187, t188, t189, t190, t191, t192, t193, t194, t195, t196, t197, t198, t199, t200, t201, t202, t203, t204, t205, t206, t207, t208, t209, t210, t211, t212, t213, t214, t215], []⟩ w5 := by
  replace hQ := Aside0.mk hQ
  have f0 := blk_frozen HI.out.i 0
  have c0 : w5.cell? ⟨g5, 0, none⟩ = some (.int .i64 21) := (blk_cell HI.out.i 0).trans rfl
  have f1 := blk_frozen HI.out.i 1
  have c1 : w5.cell? ⟨g5, 1, none⟩ = some (.int .i64 0) := (blk_cell HI.out.i 1).trans rfl
  have f2 := blk_frozen HI.out.i 2
  have c2 : w5.cell? ⟨g5, 2, none⟩ = some (.int .i64 0) := (blk_cell HI.out.i 2).trans rfl
  have f3 := blk_frozen HI.out.i 3
  have c3 : w5.cell? ⟨g5, 3, none⟩ = some (.int .i64 0) := (blk_cell HI.out.i 3).trans rfl
  have f4 := blk_frozen HI.out.i 4
  have c4 : w5.cell? ⟨g5, 4, none⟩ = some (.int .i64 0) := (blk_cell HI.out.i 4).trans rfl
  have f5 := blk_frozen HI.out.i 5
  have c5 : w5.cell? ⟨g5, 5, none⟩ = some (.int .i64 0) := (blk_cell HI.out.i 5).trans rfl
  have f7 := blk_frozen HI.out.i 7
  have c7 : w5.cell? ⟨g5, 7, none⟩ = some (.int .i64 0) := (blk_cell HI.out.i 7).trans rfl
  have z5 : g5 < w5.heap.size := blk_lt HI.out.i
  have wr0 : IntKind.u32.wrap y0 = y0 % 4294967296 := IntKind.wrap_u32 _
  have wr1 : IntKind.u32.wrap y1 = y1 % 4294967296 := IntKind.wrap_u32 _
  have q0 : 0 < n7 := by omega
  have p0 : (0 : Int) < (n7 : Int) := by omega
  have q1 : 1 < n7 := by omega
  have p1 : (1 : Int) < (n7 : Int) := by omega
  have q2 : 2 < n7 := by omega
  have p2 : (2 : Int) < (n7 : Int) := by omega
  have q3 : 3 < n7 := by omega
  have p3 : (3 : Int) < (n7 : Int) := by omega
  clear h4
  conv => arg 2; whnf
  go_wp2_with fail
  have hS : w5.drew.cell? ⟨g7, 0, none⟩ = some (.int .i64 x0) ∧ w5.drew.cell? ⟨g7, 1, none⟩ = some (.int .i64 x1) ∧ w5.drew.cell? ⟨g7, 2, none⟩ = some (.int .i64 x2) ∧ w5.drew.cell? ⟨g7, 3, none⟩ = some (.int .i64 x3) := ⟨r0', r1', r2', r3'⟩
  go_region_held3 (fun W => W.cell? ⟨g7, 0, none⟩ = some (.int .i64 x0) ∧ W.cell? ⟨g7, 1, none⟩ = some (.int .i64 x1) ∧ W.cell? ⟨g7, 2, none⟩ = some (.int .i64 x2) ∧ W.cell? ⟨g7, 3, none⟩ = some (.int .i64 x3)) (first | with_reducible exact hS | with_reducible exact keep4d hne _ _ (by assumption)) (first | fail)
  have H := Aside0.mk (((((HI.out.putj 1 (by decide) (by decide) x0).putj 2 (by decide) (by decide) x1).putj 3 (by decide) (by decide) x2).putj 4 (by decide) (by decide) x3).putj 5 (by decide) (by decide) y0).drew
  obtain ⟨w6, hw6⟩ : ∃ w6, w6 = (((((w5.setCell ⟨g5, 1, none⟩ (.int .i64 x0)).setCell ⟨g5, 2, none⟩ (.int .i64 x1)).setCell ⟨g5, 3, none⟩ (.int .i64 x2)).setCell ⟨g5, 4, none⟩ (.int .i64 x3)).setCell ⟨g5, 5, none⟩ (.int .i64 y0)).drew := ⟨_, rfl⟩
  rw [← hw6] at H ⊢
  clear hw6 HI hS f0 c0 f1 c1 f2 c2 f3 c3 f4 c4 f5 c5 f7 c7 r0' r1' r2' r3' z5
  have d0 : w6.cell? ⟨g5, 0, none⟩ = some (.int .i64 21) := (blk_cell H.out.i 0).trans rfl
  have d6 : w6.cell? ⟨g5, 7, none⟩ = some (.int .i64 0) := (blk_cell H.out.i 7).trans rfl
  have e6 := blk_frozen H.out.i 7
  have e7 : g5 < w6.heap.size := blk_lt H.out.i
  go_wp2
  rw [setF_21] at hQ
  exact hQ.out _ _ _ _ _ _ _ _ _ _ _ _ _ _ _ _ _ _ _ _ _ _ _ _ _ _ _ _ _ _ _ _ _ _ _ _ _ _ _ _ _ _ _ _ _ _ _ _ _ _ _ _ _ _ _ _ _ _ _ _ _ _ _ _ _ _ _ _ _ _ _ _ _ _ _ _ _ _ _ _ _ _ _ _ _ _ _ _ _ _ _ _ _ _ _ _ _ _ _ _ _ _ _ _ _ _ _ _ _ _ _ _ _ _ _ _ _ ⟨H.out.putq y1⟩

set_option maxHeartbeats 4000000 in
set_option maxRecDepth 100000 in
theorem sw_17 (w w5 : World) (g5 g7 n7 c7 g : Nat) (cur : Array Value) (k x0 x1 x2 x3 y0 y1 : Int) (HI : Aside0 (PInv w w5 g5 { In.zero with op := 17, k := k } g cur)) (h4 : 4 ≤ n7) (hne : g7 ≠ g5)
    (r0' : w5.cell? ⟨g7, 0, none⟩ = some (.int .i64 x0)) (r1' : w5.cell? ⟨g7, 1, none⟩ = some (.int .i64 x1)) (r2' : w5.cell? ⟨g7, 2, none⟩ = some (.int .i64 x2)) (r3' : w5.cell? ⟨g7, 3, none⟩ = some (.int .i64 x3))
    (Q : Exit → Act → World → Prop)
    (t0 t1 t2 t3 t4 t6 t8 t9 t10 t11 t12 t15 t16 t17 t18 t19 t20 t21 t22 t23 t24 t25 t26 t27 t28 t29 t30 t31 t32 t33 t34 t35 t36 t37 t38 t39 t40 t41 t42 t43 t44 t45 t46 t47 t48 t49 t50 t51 t52 t53 t54 t55 t56 t57 t58 t59 t60 t61 t62 t63 t64 t65 t66 t67 t68 t69 t70 t71 t72 t73 t74 t75 t76 t77 t78 t79 t80 t81 t82 t83 t84 t85 t86 t87 t89 t90 t91 t92 t93 t94 t95 t96 t97 t98 t99 t100 t101 t102 t103 t104 t105 t106 t107 t108 t109 t110 t111 t112 t113 t114 t115 t116 t117 t118 t119 t120 t121 t122 t123 t124 t125 t126 t127 t128 t129 t130 t131 t132 t133 t134 t135 t136 t137 t138 t139 t140 t141 t142 t143 t144 t145 t146 t147 t148 t149 t150 t151 t152 t153 t154 t155 t156 t157 t158 t159 t160 t161 t162 t163 t164 t165 t166 t167 t168 t169 t170 t171 t172 t173 t174 t175 t176 t177 t178 t179 t180 t181 t182 t183 t184 t185 t186 t187 t188 t189 t190 t191 t192 t193 t194 t195 t196 t197 t198 t199 t200 t201 t202 t203 t204 t205 t206 t207 t208 t209 t210 t211 t212 t213 t214 t215 : Value)
    (hQ : ∀ (s89 s90 s91 s92 s93 s94 s95 s96 s97 s98 s99 s100 s101 s102 s103 s104 s105 s106 s107 s108 s109 s110 s111 s112 s113 s114 s115 s116 s117 s118 s119 s120 s121 s122 s123 s124 s125 s126 s127 s128 s129 s130 s131 s132 s133 s134 s135 s136 s137 s138 s139 s140 s141 s142 s143 s144 s145 s146 s147 s148 s149 s150 s151 s152 s153 s154 s155 s156 s157 s158 s159 s160 s161 s162 s163 s164 s165 s166 s167 s168 s169 s170 s171 s172 s173 s174 s175 s176 s177 s178 s179 s180 s181 s182 s183 s184 s185 s186 s187 s188 s189 s190 s191 s192 s193 s194 s195 s196 s197 s198 s199 s200 s201 s202 s203 s204 : Value) (w' : World), Aside0 (PInv w w' g5 (setF 17 k x0 x1 x2 x3 y0 y1) g cur) → Q .normal ⟨#[t0, t1, t2, t3, t4, .pointer (some ⟨g5, 0, none⟩), t6, .slice (some ⟨g7, 0, none⟩) n7 c7, t8, t9, t10, t11, t12, .int .i64 y0, .int .i64 y1, t15, t16, t17, t18, t19, t20, t21, t22, t23, t24, t25, t26, t27, t28, t29, t30, t31, t32, t33, t34, t35, t36, t37, t38, t39, t40, t41, t42, t43, t44, t45, t46, t47, t48, t49, t50, t51, t52, t53, t54, t55, t56, t57, t58, t59, t60, t61, t62, t63, t64, t65, t66, t67, t68, t69, t70, t71, t72, t73, t74, t75, t76, t77, t78, t79, t80, t81, t82, t83, t84, t85, t86, t87, .int .i64 17, s89, s90, s91, s92, s93, s94, s95, s96, s97, s98, s99, s100, s101, s102, s103, s104, s105, s106, s107, s108, s109, s110, s111, s112, s113, s114, s115, s116, s117, s118, s119, s120, s121, s122, s123, s124, s125, s126, s127, s128, s129, s130, s131, s132, s133, s134, s135, s136, s137, s138, s139, s140, s141, s142, s143, s144, s145, s146, s147, s148, s149, s150, s151, s152, s153, s154, s155, s156, s157, s158, s159, s160, s161, s162, s163, s164, s165, s166, s167, s168, s169, s170, s171, s172, s173, s174, s175, s176, s177, s178, s179, s180, s181, s182, s183, s184, s185, s186, s187, s188, s189, s190, s191, s192, s193, s194, s195, s196, s197, s198, s199, s200, s201, s202, s203, s204, t205, t206, t207, t208, t209, t210, t211, t212, t213, t214, t215], []⟩ w') :
    Code.wp Tryd.prog refSwitch Q ⟨#[t0, t1, t2, t3, t4, .pointer (some ⟨g5, 0, none⟩), t6, .slice (some ⟨g7, 0, none⟩) n7 c7, t8, t9, t10, t11, t12, .int .i64 y0, .int .i64 y1, t15, t16, t17, t18, t19, t20, t21, t22, t23, t24, t25, t26, t27, t28, t29, t30, t31, t32, t33, t34, t35, t36, t37, t38, t39, t40, t41, t42, t43, t44, t45, t46, t47, t48, t49, t50, t51, t52, t53, t54, t55, t56, t57, t58, t59, t60, t61, t62, t63, t64, t65, t66, t67, t68, t69, t70, t71, t72, t73, t74, t75, t76, t77, t78, t79, t80, t81, t82, t83, t84, t85, t86, t87, .int .i64 17, t89, t90, t91, t92, t93, t94, t95, t96, t97, t98, t99, t100, t101, t102, t103, t104, t105, t106, t107, t108, t109, t110, t111, t112, t113, t114, t115, t116, t117, t118, t119, t120, t121, t122, t123, t124, t125, t126, t127, t128, t129, t130, t131, t132, t133, t134, t135, t136, t137, t138, t139, t140, t141, t142, t143, t144, t145, t146, t147, t148, t149, t150, t151, t152, t153, t154, t155, t156, t157, t158, t159, t160, t161, t162, t163, t164, t165, t166, t167, t168, t169, t170, t171, t172, t173, t174, t175, t176, t177, t178, t179, t180, t181, t182, t183, t184, t185, t186, t187, t188, t189, t190, t191, t192, t193, t194, t195, t196, t197, t198, t199, t200, t201, t202, t203, t204, t205, t206, t207, t208, t209, t210, t211, t212, t213, t214, t215], []⟩ w5 := by
  replace hQ := Aside0.mk hQ
  have f0 := blk_frozen HI.out.i 0
  have c0 : w5.cell? ⟨g5, 0, none⟩ = some (.int .i64 17) := (blk_cell HI.out.i 0).trans rfl
  have f2 := blk_frozen HI.out.i 2
  have c2 : w5.cell? ⟨g5, 2, none⟩ = some (.int .i64 0) := (blk_cell HI.out.i 2).trans rfl
  have f3 := blk_frozen HI.out.i 3
  have c3 : w5.cell? ⟨g5, 3, none⟩ = some (.int .i64 0) := (blk_cell HI.out.i 3).trans rfl
  have f5 := blk_frozen HI.out.i 5
  have c5 : w5.cell? ⟨g5, 5, none⟩ = some (.int .i64 0) := (blk_cell HI.out.i 5).trans rfl
  have z5 : g5 < w5.heap.size := blk_lt HI.out.i
  have wr0 : IntKind.u32.wrap y0 = y0 % 4294967296 := IntKind.wrap_u32 _
  have wr1 : IntKind.u32.wrap y1 = y1 % 4294967296 := IntKind.wrap_u32 _
  have q0 : 0 < n7 := by omega
  have p0 : (0 : Int) < (n7 : Int) := by omega
  have q1 : 1 < n7 := by omega
  have p1 : (1 : Int) < (n7 : Int) := by omega
  have q2 : 2 < n7 := by omega
  have p2 : (2 : Int) < (n7 : Int) := by omega
  have q3 : 3 < n7 := by omega
  have p3 : (3 : Int) < (n7 : Int) := by omega
  clear h4
  conv => arg 2; whnf
  go_wp2_with fail
  have hS : w5.drew.cell? ⟨g7, 0, none⟩ = some (.int .i64 x0) ∧ w5.drew.cell? ⟨g7, 1, none⟩ = some (.int .i64 x1) ∧ w5.drew.cell? ⟨g7, 2, none⟩ = some (.int .i64 x2) ∧ w5.drew.cell? ⟨g7, 3, none⟩ = some (.int .i64 x3) := ⟨r0', r1', r2', r3'⟩
  go_region_held3 (fun W => W.cell? ⟨g7, 0, none⟩ = some (.int .i64 x0) ∧ W.cell? ⟨g7, 1, none⟩ = some (.int .i64 x1) ∧ W.cell? ⟨g7, 2, none⟩ = some (.int .i64 x2) ∧ W.cell? ⟨g7, 3, none⟩ = some (.int .i64 x3)) (first | with_reducible exact hS | with_reducible exact keep4d hne _ _ (by assumption)) (first | fail)
  have H := Aside0.mk (((HI.out.putj 2 (by decide) (by decide) x0).putj 3 (by decide) (by decide) x1).putj 5 (by decide) (by decide) y0).drew
  obtain ⟨w6, hw6⟩ : ∃ w6, w6 = (((w5.setCell ⟨g5, 2, none⟩ (.int .i64 x0)).setCell ⟨g5, 3, none⟩ (.int .i64 x1)).setCell ⟨g5, 5, none⟩ (.int .i64 y0)).drew := ⟨_, rfl⟩
  rw [← hw6] at H ⊢
  clear hw6 HI hS f0 c0 f2 c2 f3 c3 f5 c5 r0' r1' r2' r3' z5
  go_wp2
  rw [setF_17] at hQ
  exact hQ.out _ _ _ _ _ _ _ _ _ _ _ _ _ _ _ _ _ _ _ _ _ _ _ _ _ _ _ _ _ _ _ _ _ _ _ _ _ _ _ _ _ _ _ _ _ _ _ _ _ _ _ _ _ _ _ _ _ _ _ _ _ _ _ _ _ _ _ _ _ _ _ _ _ _ _ _ _ _ _ _ _ _ _ _ _ _ _ _ _ _ _ _ _ _ _ _ _ _ _ _ _ _ _ _ _ _ _ _ _ _ _ _ _ _ _ _ _ ⟨H.out⟩

set_option maxHeartbeats 4000000 in
set_option maxRecDepth 100000 in
theorem sw_23 (w w5 : World) (g5 g7 n7 c7 g : Nat) (cur : Array Value) (k x0 x1 x2 x3 y0 y1 : Int) (HI : Aside0 (PInv w w5 g5 { In.zero with op := 23, k := k } g cur)) (h4 : 4 ≤ n7) (hne : g7 ≠ g5)
    (r0' : w5.cell? ⟨g7, 0, none⟩ = some (.int .i64 x0)) (r1' : w5.cell? ⟨g7, 1, none⟩ = some (.int .i64 x1)) (r2' : w5.cell? ⟨g7, 2, none⟩ = some (.int .i64 x2)) (r3' : w5.cell? ⟨g7, 3, none⟩ = some (.int .i64 x3))
    (Q : Exit → Act → World → Prop)
    (t0 t1 t2 t3 t4 t6 t8 t9 t10 t11 t12 t15 t16 t17 t18 t19 t20 t21 t22 t23 t24 t25 t26 t27 t28 t29 t30 t31 t32 t33 t34 t35 t36 t37 t38 t39 t40 t41 t42 t43 t44 t45 t46 t47 t48 t49 t50 t51 t52 t53 t54 t55 t56 t57 t58 t59 t60 t61 t62 t63 t64 t65 t66 t67 t68 t69 t70 t71 t72 t73 t74 t75 t76 t77 t78 t79 t80 t81 t82 t83 t84 t85 t86 t87 t89 t90 t91 t92 t93 t94 t95 t96 t97 t98 t99 t100 t101 t102 t103 t104 t105 t106 t107 t108 t109 t110 t111 t112 t113 t114 t115 t116 t117 t118 t119 t120 t121 t122 t123 t124 t125 t126 t127 t128 t129 t130 t131 t132 t133 t134 t135 t136 t137 t138 t139 t140 t141 t142 t143 t144 t145 t146 t147 t148 t149 t150 t151 t152 t153 t154 t155 t156 t157 t158 t159 t160 t161 t162 t163 t164 t165 t166 t167 t168 t169 t170 t171 t172 t173 t174 t175 t176 t177 t178 t179 t180 t181 t182 t183 t184 t185 t186 t187 t188 t189 t190 t191 t192 t193 t194 t195 t196 t197 t198 t199 t200 t201 t202 t203 t204 t205 t206 t207 t208 t209 t210 t211 t212 t213 t214 t215 : Value)
    (hQ : ∀ (s89 s90 s91 s92 s93 s94 s95 s96 s97 s98 s99 s100 s101 s102 s103 s104 s105 s106 s107 s108 s109 s110 s111 s112 s113 s114 s115 s116 s117 s118 s119 s120 s121 s122 s123 s124 s125 s126 s127 s128 s129 s130 s131 s132 s133 s134 s135 s136 s137 s138 s139 s140 s141 s142 s143 s144 s145 s146 s147 s148 s149 s150 s151 s152 s153 s154 s155 s156 s157 s158 s159 s160 s161 s162 s163 s164 s165 s166 s167 s168 s169 s170 s171 s172 s173 s174 s175 s176 s177 s178 s179 s180 s181 s182 s183 s184 s185 s186 s187 s188 s189 s190 s191 s192 s193 s194 s195 s196 s197 s198 s199 s200 s201 s202 s203 s204 : Value) (w' : World), Aside0 (PInv w w' g5 (setF 23 k x0 x1 x2 x3 y0 y1) g cur) → Q .normal ⟨#[t0, t1, t2, t3, t4, .pointer (some ⟨g5, 0, none⟩), t6, .slice (some ⟨g7, 0, none⟩) n7 c7, t8, t9, t10, t11, t12, .int .i64 y0, .int .i64 y1, t15, t16, t17, t18, t19, t20, t21, t22, t23, t24, t25, t26, t27, t28, t29, t30, t31, t32, t33, t34, t35, t36, t37, t38, t39, t40, t41, t42, t43, t44, t45, t46, t47, t48, t49, t50, t51, t52, t53, t54, t55, t56, t57, t58, t59, t60, t61, t62, t63, t64, t65, t66, t67, t68, t69, t70, t71, t72, t73, t74, t75, t76, t77, t78, t79, t80, t81, t82, t83, t84, t85, t86, t87, .int .i64 23, s89, s90, s91, s92, s93, s94, s95, s96, s97, s98, s99, s100, s101, s102, s103, s104, s105, s106, s107, s108, s109, s110, s111, s112, s113, s114, s115, s116, s117, s118, s119, s120, s121, s122, s123, s124, s125, s126, s127, s128, s129, s130, s131, s132, s133, s134, s135, s136, s137, s138, s139, s140, s141, s142, s143, s144, s145, s146, s147, s148, s149, s150, s151, s152, s153, s154, s155, s156, s157, s158, s159, s160, s161, s162, s163, s164, s165, s166, s167, s168, s169, s170, s171, s172, s173, s174, s175, s176, s177, s178, s179, s180, s181, s182, s183, s184, s185, s186, s187, s188, s189, s190, s191, s192, s193, s194, s195, s196, s197, s198, s199, s200, s201, s202, s203, s204, t205, t206, t207, t208, t209, t210, t211, t212, t213, t214, t215], []⟩ w') :
    Code.wp Tryd.prog refSwitch Q ⟨#[t0, t1, t2, t3, t4, .pointer (some ⟨g5, 0, none⟩), t6, .slice (some ⟨g7, 0, none⟩) n7 c7, t8, t9, t10, t11, t12, .int .i64 y0, .int .i64 y1, t15, t16, t17, t18, t19, t20, t21, t22, t23, t24, t25, t26, t27, t28, t29, t30, t31, t32, t33, t34, t35, t36, t37, t38, t39, t40, t41, t42, t43, t44, t45, t46, t47, t48, t49, t50, t51, t52, t53, t54, t55, t56, t57, t58, t59, t60, t61, t62, t63, t64, t65, t66, t67, t68, t69, t70, t71, t72, t73, t74, t75, t76, t77, t78, t79, t80, t81, t82, t83, t84, t85, t86, t87, .int .i64 23, t89, t90, t91, t92, t93, t94, t95, t96, t97, t98, t99, t100, t101, t102, t103, t104, t105, t106, t107, t108, t109, t110, t111, t112, t113, t114, t115, t116, t117, t118, t119, t120, t121, t122, t123, t124, t125, t126, t127, t128, t129, t130, t131, t132, t133, t134, t135, t136, t137, t138, t139, t140, t141, t142, t143, t144, t145, t146, t147, t148, t149, t150, t151, t152, t153, t154, t155, t156, t157, t158, t159, t160, t161, t162, t163, t164, t165, t166, t167, t168, t169, t170, t171, t172, t173, t174, t175, t176, t177, t178, t179, t180, t181, t182, t183, t184, t185, t186, t187, t188, t189, t190, t191, t192, t193, t194, t195, t196, t197, t198, t199, t200, t201, t202, t203, t204, t205, t206, t207, t208, t209, t210, t211, t212, t213, t214, t215], []⟩ w5 := by
  replace hQ := Aside0.mk hQ
  have f0 := blk_frozen HI.out.i 0
  have c0 : w5.cell? ⟨g5, 0, none⟩ = some (.int .i64 23) := (blk_cell HI.out.i 0).trans rfl
  have f2 := blk_frozen HI.out.i 2
  have c2 : w5.cell? ⟨g5, 2, none⟩ = some (.int .i64 0) := (blk_cell HI.out.i 2).trans rfl
  have z5 : g5 < w5.heap.size := blk_lt HI.out.i
  have wr0 : IntKind.u32.wrap y0 = y0 % 4294967296 := IntKind.wrap_u32 _
  have wr1 : IntKind.u32.wrap y1 = y1 % 4294967296 := IntKind.wrap_u32 _
  have q0 : 0 < n7 := by omega
  have p0 : (0 : Int) < (n7 : Int) := by omega
  have q1 : 1 < n7 := by omega
  have p1 : (1 : Int) < (n7 : Int) := by omega
  have q2 : 2 < n7 := by omega
  have p2 : (2 : Int) < (n7 : Int) := by omega
  have q3 : 3 < n7 := by omega
  have p3 : (3 : Int) < (n7 : Int) := by omega
  clear h4
  conv => arg 2; whnf
  go_wp2
  rw [setF_23] at hQ
  exact hQ.out _ _ _ _ _ _ _ _ _ _ _ _ _ _ _ _ _ _ _ _ _ _ _ _ _ _ _ _ _ _ _ _ _ _ _ _ _ _ _ _ _ _ _ _ _ _ _ _ _ _ _ _ _ _ _ _ _ _ _ _ _ _ _ _ _ _ _ _ _ _ _ _ _ _ _ _ _ _ _ _ _ _ _ _ _ _ _ _ _ _ _ _ _ _ _ _ _ _ _ _ _ _ _ _ _ _ _ _ _ _ _ _ _ _ _ _ _ ⟨HI.out.putj 2 (by decide) (by decide) x0⟩

set_option maxHeartbeats 4000000 in
set_option maxRecDepth 100000 in
theorem sw_0 (w w5 : World) (g5 g7 n7 c7 g : Nat) (cur : Array Value) (k x0 x1 x2 x3 y0 y1 : Int) (HI : Aside0 (PInv w w5 g5 { In.zero with op := 0, k := k } g cur)) (h4 : 4 ≤ n7) (hne : g7 ≠ g5)
    (r0' : w5.cell? ⟨g7, 0, none⟩ = some (.int .i64 x0)) (r1' : w5.cell? ⟨g7, 1, none⟩ = some (.int .i64 x1)) (r2' : w5.cell? ⟨g7, 2, none⟩ = some (.int .i64 x2)) (r3' : w5.cell? ⟨g7, 3, none⟩ = some (.int .i64 x3))
    (Q : Exit → Act → World → Prop)
    (t0 t1 t2 t3 t4 t6 t8 t9 t10 t11 t12 t15 t16 t17 t18 t19 t20 t21 t22 t23 t24 t25 t26 t27 t28 t29 t30 t31 t32 t33 t34 t35 t36 t37 t38 t39 t40 t41 t42 t43 t44 t45 t46 t47 t48 t49 t50 t51 t52 t53 t54 t55 t56 t57 t58 t59 t60 t61 t62 t63 t64 t65 t66 t67 t68 t69 t70 t71 t72 t73 t74 t75 t76 t77 t78 t79 t80 t81 t82 t83 t84 t85 t86 t87 t89 t90 t91 t92 t93 t94 t95 t96 t97 t98 t99 t100 t101 t102 t103 t104 t105 t106 t107 t108 t109 t110 t111 t112 t113 t114 t115 t116 t117 t118 t119 t120 t121 t122 t123 t124 t125 t126 t127 t128 t129 t130 t131 t132 t133 t134 t135 t136 t137 t138 t139 t140 t141 t142 t143 t144 t145 t146 t147 t148 t149 t150 t151 t152 t153 t154 t155 t156 t157 t158 t159 t160 t161 t162 t163 t164 t165 t166 t167 t168 t169 t170 t171 t172 t173 t174 t175 t176 t177 t178 t179 t180 t181 t182 t183 t184 t185 t186 t187 t188 t189 t190 t191 t192 t193 t194 t195 t196 t197 t198 t199 t200 t201 t202 t203 t204 t205 t206 t207 t208 t209 t210 t211 t212 t213 t214 t215 : Value)
    (hQ : ∀ (s89 s90 s91 s92 s93 s94 s95 s96 s97 s98 s99 s100 s101 s102 s103 s104 s105 s106 s107 s108 s109 s110 s111 s112 s113 s114 s115 s116 s117 s118 s119 s120 s121 s122 s123 s124 s125 s126 s127 s128 s129 s130 s131 s132 s133 s134 s135 s136 s137 s138 s139 s140 s141 s142 s143 s144 s145 s146 s147 s148 s149 s150 s151 s152 s153 s154 s155 s156 s157 s158 s159 s160 s161 s162 s163 s164 s165 s166 s167 s168 s169 s170 s171 s172 s173 s174 s175 s176 s177 s178 s179 s180 s181 s182 s183 s184 s185 s186 s187 s188 s189 s190 s191 s192 s193 s194 s195 s196 s197 s198 s199 s200 s201 s202 s203 s204 : Value) (w' : World), Aside0 (PInv w w' g5 (setF 0 k x0 x1 x2 x3 y0 y1) g cur) → Q .normal ⟨#[t0, t1, t2, t3, t4, .pointer (some ⟨g5, 0, none⟩), t6, .slice (some ⟨g7, 0, none⟩) n7 c7, t8, t9, t10, t11, t12, .int .i64 y0, .int .i64 y1, t15, t16, t17, t18, t19, t20, t21, t22, t23, t24, t25, t26, t27, t28, t29, t30, t31, t32, t33, t34, t35, t36, t37, t38, t39, t40, t41, t42, t43, t44, t45, t46, t47, t48, t49, t50, t51, t52, t53, t54, t55, t56, t57, t58, t59, t60, t61, t62, t63, t64, t65, t66, t67, t68, t69, t70, t71, t72, t73, t74, t75, t76, t77, t78, t79, t80, t81, t82, t83, t84, t85, t86, t87, .int .i64 0, s89, s90, s91, s92, s93, s94, s95, s96, s97, s98, s99, s100, s101, s102, s103, s104, s105, s106, s107, s108, s109, s110, s111, s112, s113, s114, s115, s116, s117, s118, s119, s120, s121, s122, s123, s124, s125, s126, s127, s128, s129, s130, s131, s132, s133, s134, s135, s136, s137, s138, s139, s140, s141, s142, s143, s144, s145, s146, s147, s148, s149, s150, s151, s152, s153, s154, s155, s156, s157, s158, s159, s160, s161, s162, s163, s164, s165, s166, s167, s168, s169, s170, s171, s172, s173, s174, s175, s176, s177, s178, s179, s180, s181, s182, s183, s184, s185, s186, s187, s188, s189, s190, s191, s192, s193, s194, s195, s196, s197, s198, s199, s200, s201, s202, s203, s204, t205, t206, t207, t208, t209, t210, t211, t212, t213, t214, t215], []⟩ w') :
    Code.wp Tryd.prog refSwitch Q ⟨#[t0, t1, t2, t3, t4, .pointer (some ⟨g5, 0, none⟩), t6, .slice (some ⟨g7, 0, none⟩) n7 c7, t8, t9, t10, t11, t12, .int .i64 y0, .int .i64 y1, t15, t16, t17, t18, t19, t20, t21, t22, t23, t24, t25, t26, t27, t28, t29, t30, t31, t32, t33, t34, t35, t36, t37, t38, t39, t40, t41, t42, t43, t44, t45, t46, t47, t48, t49, t50, t51, t52, t53, t54, t55, t56, t57, t58, t59, t60, t61, t62, t63, t64, t65, t66, t67, t68, t69, t70, t71, t72, t73, t74, t75, t76, t77, t78, t79, t80, t81, t82, t83, t84, t85, t86, t87, .int .i64 0, t89, t90, t91, t92, t93, t94, t95, t96, t97, t98, t99, t100, t101, t102, t103, t104, t105, t106, t107, t108, t109, t110, t111, t112, t113, t114, t115, t116, t117, t118, t119, t120, t121, t122, t123, t124, t125, t126, t127, t128, t129, t130, t131, t132, t133, t134, t135, t136, t137, t138, t139, t140, t141, t142, t143, t144, t145, t146, t147, t148, t149, t150, t151, t152, t153, t154, t155, t156, t157, t158, t159, t160, t161, t162, t163, t164, t165, t166, t167, t168, t169, t170, t171, t172, t173, t174, t175, t176, t177, t178, t179, t180, t181, t182, t183, t184, t185, t186, t187, t188, t189, t190, t191, t192, t193, t194, t195, t196, t197, t198, t199, t200, t201, t202, t203, t204, t205, t206, t207, t208, t209, t210, t211, t212, t213, t214, t215], []⟩ w5 := by
  replace hQ := Aside0.mk hQ
  have f0 := blk_frozen HI.out.i 0
  have c0 : w5.cell? ⟨g5, 0, none⟩ = some (.int .i64 0) := (blk_cell HI.out.i 0).trans rfl
  have z5 : g5 < w5.heap.size := blk_lt HI.out.i
  have wr0 : IntKind.u32.wrap y0 = y0 % 4294967296 := IntKind.wrap_u32 _
  have wr1 : IntKind.u32.wrap y1 = y1 % 4294967296 := IntKind.wrap_u32 _
  have q0 : 0 < n7 := by omega
  have p0 : (0 : Int) < (n7 : Int) := by omega
  have q1 : 1 < n7 := by omega
  have p1 : (1 : Int) < (n7 : Int) := by omega
  have q2 : 2 < n7 := by omega
  have p2 : (2 : Int) < (n7 : Int) := by omega
  have q3 : 3 < n7 := by omega
  have p3 : (3 : Int) < (n7 : Int) := by omega
  clear h4
  conv => arg 2; whnf
  go_wp2
  rw [setF_0] at hQ
  exact hQ.out _ _ _ _ _ _ _ _ _ _ _ _ _ _ _ _ _ _ _ _ _ _ _ _ _ _ _ _ _ _ _ _ _ _ _ _ _ _ _ _ _ _ _ _ _ _ _ _ _ _ _ _ _ _ _ _ _ _ _ _ _ _ _ _ _ _ _ _ _ _ _ _ _ _ _ _ _ _ _ _ _ _ _ _ _ _ _ _ _ _ _ _ _ _ _ _ _ _ _ _ _ _ _ _ _ _ _ _ _ _ _ _ _ _ _ _ _ ⟨HI.out⟩

set_option maxHeartbeats 4000000 in
set_option maxRecDepth 100000 in
theorem sw_12 (w w5 : World) (g5 g7 n7 c7 g : Nat) (cur : Array Value) (k x0 x1 x2 x3 y0 y1 : Int) (HI : Aside0 (PInv w w5 g5 { In.zero with op := 12, k := k } g cur)) (h4 : 4 ≤ n7) (hne : g7 ≠ g5)
    (r0' : w5.cell? ⟨g7, 0, none⟩ = some (.int .i64 x0)) (r1' : w5.cell? ⟨g7, 1, none⟩ = some (.int .i64 x1)) (r2' : w5.cell? ⟨g7, 2, none⟩ = some (.int .i64 x2)) (r3' : w5.cell? ⟨g7, 3, none⟩ = some (.int .i64 x3))
    (Q : Exit → Act → World → Prop)
    (t0 t1 t2 t3 t4 t6 t8 t9 t10 t11 t12 t15 t16 t17 t18 t19 t20 t21 t22 t23 t24 t25 t26 t27 t28 t29 t30 t31 t32 t33 t34 t35 t36 t37 t38 t39 t40 t41 t42 t43 t44 t45 t46 t47 t48 t49 t50 t51 t52 t53 t54 t55 t56 t57 t58 t59 t60 t61 t62 t63 t64 t65 t66 t67 t68 t69 t70 t71 t72 t73 t74 t75 t76 t77 t78 t79 t80 t81 t82 t83 t84 t85 t86 t87 t89 t90 t91 t92 t93 t94 t95 t96 t97 t98 t99 t100 t101 t102 t103 t104 t105 t106 t107 t108 t109 t110 t111 t112 t113 t114 t115 t116 t117 t118 t119 t120 t121 t122 t123 t124 t125 t126 t127 t128 t129 t130 t131 t132 t133 t134 t135 t136 t137 t138 t139 t140 t141 t142 t143 t144 t145 t146 t147 t148 t149 t150 t151 t152 t153 t154 t155 t156 t157 t158 t159 t160 t161 t162 t163 t164 t165 t166 t167 t168 t169 t170 t171 t172 t173 t174 t175 t176 t177 t178 t179 t180 t181 t182 t183 t184 t185 t186 t187 t188 t189 t190 t191 t192 t193 t194 t195 t196 t197 t198 t199 t200 t201 t202 t203 t204 t205 t206 t207 t208 t209 t210 t211 t212 t213 t214 t215 : Value)
    (hQ : ∀ (s89 s90 s91 s92 s93 s94 s95 s96 s97 s98 s99 s100 s101 s102 s103 s104 s105 s106 s107 s108 s109 s110 s111 s112 s113 s114 s115 s116 s117 s118 s119 s120 s121 s122 s123 s124 s125 s126 s127 s128 s129 s130 s131 s132 s133 s134 s135 s136 s137 s138 s139 s140 s141 s142 s143 s144 s145 s146 s147 s148 s149 s150 s151 s152 s153 s154 s155 s156 s157 s158 s159 s160 s161 s162 s163 s164 s165 s166 s167 s168 s169 s170 s171 s172 s173 s174 s175 s176 s177 s178 s179 s180 s181 s182 s183 s184 s185 s186 s187 s188 s189 s190 s191 s192 s193 s194 s195 s196 s197 s198 s199 s200 s201 s202 s203 s204 : Value) (w' : World), Aside0 (PInv w w' g5 (setF 12 k x0 x1 x2 x3 y0 y1) g cur) → Q .normal ⟨#[t0, t1, t2, t3, t4, .pointer (some ⟨g5, 0, none⟩), t6, .slice (some ⟨g7, 0, none⟩) n7 c7, t8, t9, t10, t11, t12, .int .i64 y0, .int .i64 y1, t15, t16, t17, t18, t19, t20, t21, t22, t23, t24, t25, t26, t27, t28, t29, t30, t31, t32, t33, t34, t35, t36, t37, t38, t39, t40, t41, t42, t43, t44, t45, t46, t47, t48, t49, t50, t51, t52, t53, t54, t55, t56, t57, t58, t59, t60, t61, t62, t63, t64, t65, t66, t67, t68, t69, t70, t71, t72, t73, t74, t75, t76, t77, t78, t79, t80, t81, t82, t83, t84, t85, t86, t87, .int .i64 12, s89, s90, s91, s92, s93, s94, s95, s96, s97, s98, s99, s100, s101, s102, s103, s104, s105, s106, s107, s108, s109, s110, s111, s112, s113, s114, s115, s116, s117, s118, s119, s120, s121, s122, s123, s124, s125, s126, s127, s128, s129, s130, s131, s132, s133, s134, s135, s136, s137, s138, s139, s140, s141, s142, s143, s144, s145, s146, s147, s148, s149, s150, s151, s152, s153, s154, s155, s156, s157, s158, s159, s160, s161, s162, s163, s164, s165, s166, s167, s168, s169, s170, s171, s172, s173, s174, s175, s176, s177, s178, s179, s180, s181, s182, s183, s184, s185, s186, s187, s188, s189, s190, s191, s192, s193, s194, s195, s196, s197, s198, s199, s200, s201, s202, s203, s204, t205, t206, t207, t208, t209, t210, t211, t212, t213, t214, t215], []⟩ w') :
    Code.wp Tryd.prog refSwitch Q ⟨#[t0, t1, t2, t3, t4, .pointer (some ⟨g5, 0, none⟩), t6, .slice (some ⟨g7, 0, none⟩) n7 c7, t8, t9, t10, t11, t12, .int .i64 y0, .int .i64 y1, t15, t16, t17, t18, t19, t20, t21, t22, t23, t24, t25, t26, t27, t28, t29, t30, t31, t32, t33, t34, t35, t36, t37, t38, t39, t40, t41, t42, t43, t44, t45, t46, t47, t48, t49, t50, t51, t52, t53, t54, t55, t56, t57, t58, t59, t60, t61, t62, t63, t64, t65, t66, t67, t68, t69, t70, t71, t72, t73, t74, t75, t76, t77, t78, t79, t80, t81, t82, t83, t84, t85, t86, t87, .int .i64 12, t89, t90, t91, t92, t93, t94, t95, t96, t97, t98, t99, t100, t101, t102, t103, t104, t105, t106, t107, t108, t109, t110, t111, t112, t113, t114, t115, t116, t117, t118, t119, t120, t121, t122, t123, t124, t125, t126, t127, t128, t129, t130, t131, t132, t133, t134, t135, t136, t137, t138, t139, t140, t141, t142, t143, t144, t145, t146, t147, t148, t149, t150, t151, t152, t153, t154, t155, t156, t157, t158, t159, t160, t161, t162, t163, t164, t165, t166, t167, t168, t169, t170, t171, t172, t173, t174, t175, t176, t177, t178, t179, t180, t181, t182, t183, t184, t185, t186, t187, t188, t189, t190, t191, t192, t193, t194, t195, t196, t197, t198, t199, t200, t201, t202, t203, t204, t205, t206, t207, t208, t209, t210, t211, t212, t213, t214, t215], []⟩ w5 := by
  replace hQ := Aside0.mk hQ
  have f0 := blk_frozen HI.out.i 0
  have c0 : w5.cell? ⟨g5, 0, none⟩ = some (.int .i64 12) := (blk_cell HI.out.i 0).trans rfl
  have f6 := blk_frozen HI.out.i 6
  have c6 : w5.cell? ⟨g5, 6, none⟩ = some (.int .u32 k) := (blk_cell HI.out.i 6).trans rfl
  have z5 : g5 < w5.heap.size := blk_lt HI.out.i
  have wr0 : IntKind.u32.wrap y0 = y0 % 4294967296 := IntKind.wrap_u32 _
  have wr1 : IntKind.u32.wrap y1 = y1 % 4294967296 := IntKind.wrap_u32 _
  have q0 : 0 < n7 := by omega
  have p0 : (0 : Int) < (n7 : Int) := by omega
  have q1 : 1 < n7 := by omega
  have p1 : (1 : Int) < (n7 : Int) := by omega
  have q2 : 2 < n7 := by omega
  have p2 : (2 : Int) < (n7 : Int) := by omega
  have q3 : 3 < n7 := by omega
  have p3 : (3 : Int) < (n7 : Int) := by omega
  clear h4
  conv => arg 2; whnf
  go_wp2
  rw [setF_12] at hQ
  exact hQ.out _ _ _ _ _ _ _ _ _ _ _ _ _ _ _ _ _ _ _ _ _ _ _ _ _ _ _ _ _ _ _ _ _ _ _ _ _ _ _ _ _ _ _ _ _ _ _ _ _ _ _ _ _ _ _ _ _ _ _ _ _ _ _ _ _ _ _ _ _ _ _ _ _ _ _ _ _ _ _ _ _ _ _ _ _ _ _ _ _ _ _ _ _ _ _ _ _ _ _ _ _ _ _ _ _ _ _ _ _ _ _ _ _ _ _ _ _ ⟨HI.out.putk (y0 % 4294967296)⟩

set_option maxHeartbeats 4000000 in
set_option maxRecDepth 100000 in
theorem sw_13 (w w5 : World) (g5 g7 n7 c7 g : Nat) (cur : Array Value) (k x0 x1 x2 x3 y0 y1 : Int) (HI : Aside0 (PInv w w5 g5 { In.zero with op := 13, k := k } g cur)) (h4 : 4 ≤ n7) (hne : g7 ≠ g5)
    (r0' : w5.cell? ⟨g7, 0, none⟩ = some (.int .i64 x0)) (r1' : w5.cell? ⟨g7, 1, none⟩ = some (.int .i64 x1)) (r2' : w5.cell? ⟨g7, 2, none⟩ = some (.int .i64 x2)) (r3' : w5.cell? ⟨g7, 3, none⟩ = some (.int .i64 x3))
    (Q : Exit → Act → World → Prop)
    (t0 t1 t2 t3 t4 t6 t8 t9 t10 t11 t12 t15 t16 t17 t18 t19 t20 t21 t22 t23 t24 t25 t26 t27 t28 t29 t30 t31 t32 t33 t34 t35 t36 t37 t38 t39 t40 t41 t42 t43 t44 t45 t46 t47 t48 t49 t50 t51 t52 t53 t54 t55 t56 t57 t58 t59 t60 t61 t62 t63 t64 t65 t66 t67 t68 t69 t70 t71 t72 t73 t74 t75 t76 t77 t78 t79 t80 t81 t82 t83 t84 t85 t86 t87 t89 t90 t91 t92 t93 t94 t95 t96 t97 t98 t99 t100 t101 t102 t103 t104 t105 t106 t107 t108 t109 t110 t111 t112 t113 t114 t115 t116 t117 t118 t119 t120 t121 t122 t123 t124 t125 t126 t127 t128 t129 t130 t131 t132 t133 t134 t135 t136 t137 t138 t139 t140 t141 t142 t143 t144 t145 t146 t147 t148 t149 t150 t151 t152 t153 t154 t155 t156 t157 t158 t159 t160 t161 t162 t163 t164 t165 t166 t167 t168 t169 t170 t171 t172 t173 t174 t175 t176 t177 t178 t179 t180 t181 t182 t183 t184 t185 t186 t187 t188 t189 t190 t191 t192 t193 t194 t195 t196 t197 t198 t199 t200 t201 t202 t203 t204 t205 t206 t207 t208 t209 t210 t211 t212 t213 t214 t215 : Value)
    (hQ : ∀ (s89 s90 s91 s92 s93 s94 s95 s96 s97 s98 s99 s100 s101 s102 s103 s104 s105 s106 s107 s108 s109 s110 s111 s112 s113 s114 s115 s116 s117 s118 s119 s120 s121 s122 s123 s124 s125 s126 s127 s128 s129 s130 s131 s132 s133 s134 s135 s136 s137 s138 s139 s140 s141 s142 s143 s144 s145 s146 s147 s148 s149 s150 s151 s152 s153 s154 s155 s156 s157 s158 s159 s160 s161 s162 s163 s164 s165 s166 s167 s168 s169 s170 s171 s172 s173 s174 s175 s176 s177 s178 s179 s180 s181 s182 s183 s184 s185 s186 s187 s188 s189 s190 s191 s192 s193 s194 s195 s196 s197 s198 s199 s200 s201 s202 s203 s204 : Value) (w' : World), Aside0 (PInv w w' g5 (setF 13 k x0 x1 x2 x3 y0 y1) g cur) → Q .normal ⟨#[t0, t1, t2, t3, t4, .pointer (some ⟨g5, 0, none⟩), t6, .slice (some ⟨g7, 0, none⟩) n7 c7, t8, t9, t10, t11, t12, .int .i64 y0, .int .i64 y1, t15, t16, t17, t18, t19, t20, t21, t22, t23, t24, t25, t26, t27, t28, t29, t30, t31, t32, t33, t34, t35, t36, t37, t38, t39, t40, t41, t42, t43, t44, t45, t46, t47, t48, t49, t50, t51, t52, t53, t54, t55, t56, t57, t58, t59, t60, t61, t62, t63, t64, t65, t66, t67, t68, t69, t70, t71, t72, t73, t74, t75, t76, t77, t78, t79, t80, t81, t82, t83, t84, t85, t86, t87, .int .i64 13, s89, s90, s91, s92, s93, s94, s95, s96, s97, s98, s99, s100, s101, s102, s103, s104, s105, s106, s107, s108, s109, s110, s111, s112, s113, s114, s115, s116, s117, s118, s119, s120, s121, s122, s123, s124, s125, s126, s127, s128, s129, s130, s131, s132, s133, s134, s135, s136, s137, s138, s139, s140, s141, s142, s143, s144, s145, s146, s147, s148, s149, s150, s151, s152, s153, s154, s155, s156, s157, s158, s159, s160, s161, s162, s163, s164, s165, s166, s167, s168, s169, s170, s171, s172, s173, s174, s175, s176, s177, s178, s179, s180, s181, s182, s183, s184, s185, s186, s187, s188, s189, s190, s191, s192, s193, s194, s195, s196, s197, s198, s199, s200, s201, s202, s203, s204, t205, t206, t207, t208, t209, t210, t211, t212, t213, t214, t215], []⟩ w') :
    Code.wp Tryd.prog refSwitch Q ⟨#[t0, t1, t2, t3, t4, .pointer (some ⟨g5, 0, none⟩), t6, .slice (some ⟨g7, 0, none⟩) n7 c7, t8, t9, t10, t11, t12, .int .i64 y0, .int .i64 y1, t15, t16, t17, t18, t19, t20, t21, t22, t23, t24, t25, t26, t27, t28, t29, t30, t31, t32, t33, t34, t35, t36, t37, t38, t39, t40, t41, t42, t43, t44, t45, t46, t47, t48, t49, t50, t51, t52, t53, t54, t55, t56, t57, t58, t59, t60, t61, t62, t63, t64, t65, t66, t67, t68, t69, t70, t71, t72, t73, t74, t75, t76, t77, t78, t79, t80, t81, t82, t83, t84, t85, t86, t87, .int .i64 13, t89, t90, t91, t92, t93, t94, t95, t96, t97, t98, t99, t100, t101, t102, t103, t104, t105, t106, t107, t108, t109, t110, t111, t112, t113, t114, t115, t116, t117, t118, t119, t120, t121, t122, t123, t124, t125, t126, t127, t128, t129, t130, t131, t132, t133, t134, t135, t136, t137, t138, t139, t140, t141, t142, t143, t144, t145, t146, t147, t148, t149, t150, t151, t152, t153, t154, t155, t156, t157, t158, t159, t160, t161, t162, t163, t164, t165, t166, t167, t168, t169, t170, t171, t172, t173, t174, t175, t176, t177, t178, t179, t180, t181, t182, t183, t184, t185, t186, t187, t188, t189, t190, t191, t192, t193, t194, t195, t196, t197, t198, t199, t200, t201, t202, t203, t204, t205, t206, t207, t208, t209, t210, t211, t212, t213, t214, t215], []⟩ w5 := by
  replace hQ := Aside0.mk hQ
  have f0 := blk_frozen HI.out.i 0
  have c0 : w5.cell? ⟨g5, 0, none⟩ = some (.int .i64 13) := (blk_cell HI.out.i 0).trans rfl
  have f6 := blk_frozen HI.out.i 6
  have c6 : w5.cell? ⟨g5, 6, none⟩ = some (.int .u32 k) := (blk_cell HI.out.i 6).trans rfl
  have z5 : g5 < w5.heap.size := blk_lt HI.out.i
  have wr0 : IntKind.u32.wrap y0 = y0 % 4294967296 := IntKind.wrap_u32 _
  have wr1 : IntKind.u32.wrap y1 = y1 % 4294967296 := IntKind.wrap_u32 _
  have q0 : 0 < n7 := by omega
  have p0 : (0 : Int) < (n7 : Int) := by omega
  have q1 : 1 < n7 := by omega
  have p1 : (1 : Int) < (n7 : Int) := by omega
  have q2 : 2 < n7 := by omega
  have p2 : (2 : Int) < (n7 : Int) := by omega
  have q3 : 3 < n7 := by omega
  have p3 : (3 : Int) < (n7 : Int) := by omega
  clear h4
  conv => arg 2; whnf
  go_wp2
  rw [setF_13] at hQ
  exact hQ.out _ _ _ _ _ _ _ _ _ _ _ _ _ _ _ _ _ _ _ _ _ _ _ _ _ _ _ _ _ _ _ _ _ _ _ _ _ _ _ _ _ _ _ _ _ _ _ _ _ _ _ _ _ _ _ _ _ _ _ _ _ _ _ _ _ _ _ _ _ _ _ _ _ _ _ _ _ _ _ _ _ _ _ _ _ _ _ _ _ _ _ _ _ _ _ _ _ _ _ _ _ _ _ _ _ _ _ _ _ _ _ _ _ _ _ _ _ ⟨HI.out.putk (y0 % 4294967296)⟩
end Go.Proofs.YtbkbkikbfbmbdaaDoor

/- Parts: RefSwitchKit, RefSwitchA, RefSwitchB, RefSwitchC, RefSwitch. -/
import Derived.Test.YtjjpiefgdggghaaGreatDoorK43
import Derived.Test.YtjjpiefgdggghaaGreatDoorK05
set_option linter.unusedVariables false
set_option linter.unusedSimpArgs false
set_option maxRecDepth 100000
set_option maxHeartbeats 40000000
namespace Go.Proofs.YtjjpiefgdggghaaGreatDoor
section
open Go.RowKit Go.Proofs.YtjjpiefgdggghaaGreatDoorW.PrintWords
def Fb(op:Int):Prop:=∀ (w w5:World) (g5 g7 n7 c7 g:Nat) (cur:Array Value) (k x0 x1 x2 x3 y0 y1:Int) (_:Af (D5 w w5 g5 {In.zero with op:=op,k:=k} g cur)) (_:4≤n7) (_:g7≠g5)
 (_:w5.cell? ⟨g7,0,none⟩=some (.int .i64 x0)) (_:w5.cell? ⟨g7,1,none⟩=some (.int .i64 x1)) (_:w5.cell? ⟨g7,2,none⟩=some (.int .i64 x2)) (_:w5.cell? ⟨g7,3,none⟩=some (.int .i64 x3))
 (Q:Exit→Act→World→Prop)
 (t0 t1 t2 t3 t4 t6 t8 t9 t10 t11 t12 t15 t16 t17 t18 t19 t20 t21 t22 t23 t24 t25 t26 t27 t28 t29 t30 t31 t32 t33 t34 t35 t36 t37 t38 t39 t40 t41 t42 t43 t44 t45 t46 t47 t48 t49 t50 t51 t52 t53 t54 t55 t56 t57 t58 t59 t60 t61 t62 t63 t64 t65 t66 t67 t68 t69 t70 t71 t72 t73 t74 t75 t76 t77 t78 t79 t80 t81 t82 t83 t84 t85 t86 t87 t89 t90 t91 t92 t93 t94 t95 t96 t97 t98 t99 t100 t101 t102 t103 t104 t105 t106 t107 t108 t109 t110 t111 t112 t113 t114 t115 t116 t117 t118 t119 t120 t121 t122 t123 t124 t125 t126 t127 t128 t129 t130 t131 t132 t133 t134 t135 t136 t137 t138 t139 t140 t141 t142 t143 t144 t145 t146 t147 t148 t149 t150 t151 t152 t153 t154 t155 t156 t157 t158 t159 t160 t161 t162 t163 t164 t165 t166 t167 t168 t169 t170 t171 t172 t173 t174 t175 t176 t177 t178 t179 t180 t181 t182 t183 t184 t185 t186 t187 t188 t189 t190 t191 t192 t193 t194 t195 t196 t197 t198 t199 t200 t201 t202 t203 t204 t205 t206 t207 t208 t209 t210 t211 t212 t213 t214 t215:Value)
 (_:∀ (s89 s90 s91 s92 s93 s94 s95 s96 s97 s98 s99 s100 s101 s102 s103 s104 s105 s106 s107 s108 s109 s110 s111 s112 s113 s114 s115 s116 s117 s118 s119 s120 s121 s122 s123 s124 s125 s126 s127 s128 s129 s130 s131 s132 s133 s134 s135 s136 s137 s138 s139 s140 s141 s142 s143 s144 s145 s146 s147 s148 s149 s150 s151 s152 s153 s154 s155 s156 s157 s158 s159 s160 s161 s162 s163 s164 s165 s166 s167 s168 s169 s170 s171 s172 s173 s174 s175 s176 s177 s178 s179 s180 s181 s182 s183 s184 s185 s186 s187 s188 s189 s190 s191 s192 s193 s194 s195 s196 s197 s198 s199 s200 s201 s202 s203 s204:Value) (w':World),Af (D5 w w' g5 (C6 op k x0 x1 x2 x3 y0 y1) g cur)→Q .normal ⟨#[t0,t1,t2,t3,t4,.pointer (some ⟨g5,0,none⟩),t6,.slice (some ⟨g7,0,none⟩) n7 c7,t8,t9,t10,t11,t12,.int .i64 y0,.int .i64 y1,t15,t16,t17,t18,t19,t20,t21,t22,t23,t24,t25,t26,t27,t28,t29,t30,t31,t32,t33,t34,t35,t36,t37,t38,t39,t40,t41,t42,t43,t44,t45,t46,t47,t48,t49,t50,t51,t52,t53,t54,t55,t56,t57,t58,t59,t60,t61,t62,t63,t64,t65,t66,t67,t68,t69,t70,t71,t72,t73,t74,t75,t76,t77,t78,t79,t80,t81,t82,t83,t84,t85,t86,t87,.int .i64 op,s89,s90,s91,s92,s93,s94,s95,s96,s97,s98,s99,s100,s101,s102,s103,s104,s105,s106,s107,s108,s109,s110,s111,s112,s113,s114,s115,s116,s117,s118,s119,s120,s121,s122,s123,s124,s125,s126,s127,s128,s129,s130,s131,s132,s133,s134,s135,s136,s137,s138,s139,s140,s141,s142,s143,s144,s145,s146,s147,s148,s149,s150,s151,s152,s153,s154,s155,s156,s157,s158,s159,s160,s161,s162,s163,s164,s165,s166,s167,s168,s169,s170,s171,s172,s173,s174,s175,s176,s177,s178,s179,s180,s181,s182,s183,s184,s185,s186,s187,s188,s189,s190,s191,s192,s193,s194,s195,s196,s197,s198,s199,s200,s201,s202,s203,s204,t205,t206,t207,t208,t209,t210,t211,t212,t213,t214,t215],[]⟩ w'),
 Code.wp Tryz.prog S7 Q ⟨#[t0,t1,t2,t3,t4,.pointer (some ⟨g5,0,none⟩),t6,.slice (some ⟨g7,0,none⟩) n7 c7,t8,t9,t10,t11,t12,.int .i64 y0,.int .i64 y1,t15,t16,t17,t18,t19,t20,t21,t22,t23,t24,t25,t26,t27,t28,t29,t30,t31,t32,t33,t34,t35,t36,t37,t38,t39,t40,t41,t42,t43,t44,t45,t46,t47,t48,t49,t50,t51,t52,t53,t54,t55,t56,t57,t58,t59,t60,t61,t62,t63,t64,t65,t66,t67,t68,t69,t70,t71,t72,t73,t74,t75,t76,t77,t78,t79,t80,t81,t82,t83,t84,t85,t86,t87,.int .i64 op,t89,t90,t91,t92,t93,t94,t95,t96,t97,t98,t99,t100,t101,t102,t103,t104,t105,t106,t107,t108,t109,t110,t111,t112,t113,t114,t115,t116,t117,t118,t119,t120,t121,t122,t123,t124,t125,t126,t127,t128,t129,t130,t131,t132,t133,t134,t135,t136,t137,t138,t139,t140,t141,t142,t143,t144,t145,t146,t147,t148,t149,t150,t151,t152,t153,t154,t155,t156,t157,t158,t159,t160,t161,t162,t163,t164,t165,t166,t167,t168,t169,t170,t171,t172,t173,t174,t175,t176,t177,t178,t179,t180,t181,t182,t183,t184,t185,t186,t187,t188,t189,t190,t191,t192,t193,t194,t195,t196,t197,t198,t199,t200,t201,t202,t203,t204,t205,t206,t207,t208,t209,t210,t211,t212,t213,t214,t215],[]⟩ w5
theorem Aq{w W:World}{g5 g:Nat}{op k:Int}{cur:Array Value}(h:D5 w W g5 {In.zero with op:=op,k:=k} g cur)(j:Nat)(v:Value)(hv:(In.cs {In.zero with op:=op,k:=k})[j]?=some v):W.frozen? ⟨g5,j,none⟩=false∧W.cell? ⟨g5,j,none⟩=some v :=
 ⟨Bf h.i j,(Bc h.i j).trans hv⟩
abbrev S4(g7:Nat)(x0 x1 x2 x3:Int)(W:World):Prop:=W.cell? ⟨g7,0,none⟩=some (.int .i64 x0)∧W.cell? ⟨g7,1,none⟩=some (.int .i64 x1)∧W.cell? ⟨g7,2,none⟩=some (.int .i64 x2)∧W.cell? ⟨g7,3,none⟩=some (.int .i64 x3)
theorem Aaz:Fb 1:=by
 intro w w5 g5 g7 n7 c7 g cur k x0 x1 x2 x3 y0 y1 HI h4 hne r0' r1' r2' r3' Q
 intros
 rename_i hQ
 replace hQ:=Az hQ;obtain⟨f0,c0⟩:=Aq HI.out 0 _ rfl;obtain⟨f1,c1⟩:=Aq HI.out 1 _ rfl;obtain⟨f2,c2⟩:=Aq HI.out 2 _ rfl;obtain⟨f3,c3⟩:=Aq HI.out 3 _ rfl;obtain⟨f6,c6⟩:=Aq HI.out 6 _ rfl;have z5:g5<w5.heap.size:=Bl HI.out.i;have wr0:IntKind.u32.wrap y0=y0%4294967296:=IntKind.wrap_u32 _;have wr1:IntKind.u32.wrap y1=y1%4294967296:=IntKind.wrap_u32 _;obtain⟨q0,p0,q1,p1,q2,p2,q3,p3⟩:0<n7∧(0:Int)<(n7:Int)∧1<n7∧(1:Int)<(n7:Int)∧2<n7∧(2:Int)<(n7:Int)∧3<n7∧(3:Int)<(n7:Int):=by omega
 clear h4
 conv=>arg 2;whnf
 go_wp2_with fail
 have hS:S4 g7 x0 x1 x2 x3 w5.drew:=⟨r0',r1',r2',r3'⟩
 go_region_held3 (fun W=>S4 g7 x0 x1 x2 x3 W) (first |with_reducible exact hS |with_reducible exact D3 hne _ _ (by assumption)) (first |fail)
 have H:=Az (((HI.out.BX 1 (by decide) (by decide) x0).BX 2 (by decide) (by decide) x1).BX 3 (by decide) (by decide) x2).drew;obtain⟨w6,hw6⟩:∃ w6,w6=(((w5.setCell ⟨g5,1,none⟩ (.int .i64 x0)).setCell ⟨g5,2,none⟩ (.int .i64 x1)).setCell ⟨g5,3,none⟩ (.int .i64 x2)).drew:=⟨_,rfl⟩
 rw[←hw6]at H ⊢;clear hw6 HI hS f0 c0 f1 c1 f2 c2 f3 c3 f6 c6 r0' r1' r2' r3' z5;have d0:w6.cell? ⟨g5,0,none⟩=some (.int .i64 1):=(Bc H.out.i 0).trans rfl;have d6:w6.cell? ⟨g5,6,none⟩=some (.int .u32 k):=(Bc H.out.i 6).trans rfl;have e6:=Bf H.out.i 6;have e7:g5<w6.heap.size:=Bl H.out.i;go_wp2;rw[Ym]at hQ;apply hQ.out;exact⟨H.out.OH (y0%4294967296)⟩
theorem Aa0:Fb 2:=by
 intro w w5 g5 g7 n7 c7 g cur k x0 x1 x2 x3 y0 y1 HI h4 hne r0' r1' r2' r3' Q
 intros
 rename_i hQ
 replace hQ:=Az hQ;obtain⟨f0,c0⟩:=Aq HI.out 0 _ rfl;obtain⟨f1,c1⟩:=Aq HI.out 1 _ rfl;obtain⟨f2,c2⟩:=Aq HI.out 2 _ rfl;obtain⟨f3,c3⟩:=Aq HI.out 3 _ rfl;have z5:g5<w5.heap.size:=Bl HI.out.i;have wr0:IntKind.u32.wrap y0=y0%4294967296:=IntKind.wrap_u32 _;have wr1:IntKind.u32.wrap y1=y1%4294967296:=IntKind.wrap_u32 _;obtain⟨q0,p0,q1,p1,q2,p2,q3,p3⟩:0<n7∧(0:Int)<(n7:Int)∧1<n7∧(1:Int)<(n7:Int)∧2<n7∧(2:Int)<(n7:Int)∧3<n7∧(3:Int)<(n7:Int):=by omega
 clear h4
 conv=>arg 2;whnf
 go_wp2_with fail
 have hS:S4 g7 x0 x1 x2 x3 w5.drew:=⟨r0',r1',r2',r3'⟩
 go_region_held3 (fun W=>S4 g7 x0 x1 x2 x3 W) (first |with_reducible exact hS |with_reducible exact D3 hne _ _ (by assumption)) (first |fail)
 have H:=Az (((HI.out.BX 1 (by decide) (by decide) x0).BX 2 (by decide) (by decide) x1).BX 3 (by decide) (by decide) x2).drew;obtain⟨w6,hw6⟩:∃ w6,w6=(((w5.setCell ⟨g5,1,none⟩ (.int .i64 x0)).setCell ⟨g5,2,none⟩ (.int .i64 x1)).setCell ⟨g5,3,none⟩ (.int .i64 x2)).drew:=⟨_,rfl⟩
 rw[←hw6]at H ⊢;clear hw6 HI hS f0 c0 f1 c1 f2 c2 f3 c3 r0' r1' r2' r3' z5;have d0:w6.cell? ⟨g5,0,none⟩=some (.int .i64 2):=(Bc H.out.i 0).trans rfl;go_wp2;rw[Yn]at hQ;apply hQ.out;exact⟨H.out⟩
theorem Aa1:Fb 3:=by
 intro w w5 g5 g7 n7 c7 g cur k x0 x1 x2 x3 y0 y1 HI h4 hne r0' r1' r2' r3' Q
 intros
 rename_i hQ
 replace hQ:=Az hQ;obtain⟨f0,c0⟩:=Aq HI.out 0 _ rfl;obtain⟨f1,c1⟩:=Aq HI.out 1 _ rfl;obtain⟨f2,c2⟩:=Aq HI.out 2 _ rfl;obtain⟨f3,c3⟩:=Aq HI.out 3 _ rfl;obtain⟨f6,c6⟩:=Aq HI.out 6 _ rfl;have z5:g5<w5.heap.size:=Bl HI.out.i;have wr0:IntKind.u32.wrap y0=y0%4294967296:=IntKind.wrap_u32 _;have wr1:IntKind.u32.wrap y1=y1%4294967296:=IntKind.wrap_u32 _;obtain⟨q0,p0,q1,p1,q2,p2,q3,p3⟩:0<n7∧(0:Int)<(n7:Int)∧1<n7∧(1:Int)<(n7:Int)∧2<n7∧(2:Int)<(n7:Int)∧3<n7∧(3:Int)<(n7:Int):=by omega
 clear h4
 conv=>arg 2;whnf
 go_wp2_with fail
 have hS:S4 g7 x0 x1 x2 x3 w5.drew:=⟨r0',r1',r2',r3'⟩
 go_region_held3 (fun W=>S4 g7 x0 x1 x2 x3 W) (first |with_reducible exact hS |with_reducible exact D3 hne _ _ (by assumption)) (first |fail)
 have H:=Az (((HI.out.BX 1 (by decide) (by decide) x0).BX 2 (by decide) (by decide) x1).BX 3 (by decide) (by decide) x2).drew;obtain⟨w6,hw6⟩:∃ w6,w6=(((w5.setCell ⟨g5,1,none⟩ (.int .i64 x0)).setCell ⟨g5,2,none⟩ (.int .i64 x1)).setCell ⟨g5,3,none⟩ (.int .i64 x2)).drew:=⟨_,rfl⟩
 rw[←hw6]at H ⊢;clear hw6 HI hS f0 c0 f1 c1 f2 c2 f3 c3 f6 c6 r0' r1' r2' r3' z5;have d0:w6.cell? ⟨g5,0,none⟩=some (.int .i64 3):=(Bc H.out.i 0).trans rfl;have d6:w6.cell? ⟨g5,6,none⟩=some (.int .u32 k):=(Bc H.out.i 6).trans rfl;have e6:=Bf H.out.i 6;have e7:g5<w6.heap.size:=Bl H.out.i;go_wp2;rw[Yo]at hQ;apply hQ.out;exact⟨H.out.OH (y0%4294967296)⟩
theorem Aa2:Fb 4:=by
 intro w w5 g5 g7 n7 c7 g cur k x0 x1 x2 x3 y0 y1 HI h4 hne r0' r1' r2' r3' Q
 intros
 rename_i hQ
 replace hQ:=Az hQ;obtain⟨f0,c0⟩:=Aq HI.out 0 _ rfl;obtain⟨f1,c1⟩:=Aq HI.out 1 _ rfl;obtain⟨f2,c2⟩:=Aq HI.out 2 _ rfl;obtain⟨f3,c3⟩:=Aq HI.out 3 _ rfl;obtain⟨f6,c6⟩:=Aq HI.out 6 _ rfl;have z5:g5<w5.heap.size:=Bl HI.out.i;have wr0:IntKind.u32.wrap y0=y0%4294967296:=IntKind.wrap_u32 _;have wr1:IntKind.u32.wrap y1=y1%4294967296:=IntKind.wrap_u32 _;obtain⟨q0,p0,q1,p1,q2,p2,q3,p3⟩:0<n7∧(0:Int)<(n7:Int)∧1<n7∧(1:Int)<(n7:Int)∧2<n7∧(2:Int)<(n7:Int)∧3<n7∧(3:Int)<(n7:Int):=by omega
 clear h4
 conv=>arg 2;whnf
 go_wp2_with fail
 have hS:S4 g7 x0 x1 x2 x3 w5.drew:=⟨r0',r1',r2',r3'⟩
 go_region_held3 (fun W=>S4 g7 x0 x1 x2 x3 W) (first |with_reducible exact hS |with_reducible exact D3 hne _ _ (by assumption)) (first |fail)
 have H:=Az (((HI.out.BX 1 (by decide) (by decide) x0).BX 2 (by decide) (by decide) x1).BX 3 (by decide) (by decide) x2).drew;obtain⟨w6,hw6⟩:∃ w6,w6=(((w5.setCell ⟨g5,1,none⟩ (.int .i64 x0)).setCell ⟨g5,2,none⟩ (.int .i64 x1)).setCell ⟨g5,3,none⟩ (.int .i64 x2)).drew:=⟨_,rfl⟩
 rw[←hw6]at H ⊢;clear hw6 HI hS f0 c0 f1 c1 f2 c2 f3 c3 f6 c6 r0' r1' r2' r3' z5;have d0:w6.cell? ⟨g5,0,none⟩=some (.int .i64 4):=(Bc H.out.i 0).trans rfl;have d6:w6.cell? ⟨g5,6,none⟩=some (.int .u32 k):=(Bc H.out.i 6).trans rfl;have e6:=Bf H.out.i 6;have e7:g5<w6.heap.size:=Bl H.out.i;go_wp2;rw[Yp]at hQ;apply hQ.out;exact⟨H.out.OH (y0%4294967296)⟩
theorem Aa3:Fb 5:=by
 intro w w5 g5 g7 n7 c7 g cur k x0 x1 x2 x3 y0 y1 HI h4 hne r0' r1' r2' r3' Q
 intros
 rename_i hQ
 replace hQ:=Az hQ;obtain⟨f0,c0⟩:=Aq HI.out 0 _ rfl;obtain⟨f1,c1⟩:=Aq HI.out 1 _ rfl;obtain⟨f2,c2⟩:=Aq HI.out 2 _ rfl;obtain⟨f3,c3⟩:=Aq HI.out 3 _ rfl;obtain⟨f6,c6⟩:=Aq HI.out 6 _ rfl;have z5:g5<w5.heap.size:=Bl HI.out.i;have wr0:IntKind.u32.wrap y0=y0%4294967296:=IntKind.wrap_u32 _;have wr1:IntKind.u32.wrap y1=y1%4294967296:=IntKind.wrap_u32 _;obtain⟨q0,p0,q1,p1,q2,p2,q3,p3⟩:0<n7∧(0:Int)<(n7:Int)∧1<n7∧(1:Int)<(n7:Int)∧2<n7∧(2:Int)<(n7:Int)∧3<n7∧(3:Int)<(n7:Int):=by omega
 clear h4
 conv=>arg 2;whnf
 go_wp2_with fail
 have hS:S4 g7 x0 x1 x2 x3 w5.drew:=⟨r0',r1',r2',r3'⟩
 go_region_held3 (fun W=>S4 g7 x0 x1 x2 x3 W) (first |with_reducible exact hS |with_reducible exact D3 hne _ _ (by assumption)) (first |fail)
 have H:=Az (((HI.out.BX 1 (by decide) (by decide) x0).BX 2 (by decide) (by decide) x1).BX 3 (by decide) (by decide) x2).drew;obtain⟨w6,hw6⟩:∃ w6,w6=(((w5.setCell ⟨g5,1,none⟩ (.int .i64 x0)).setCell ⟨g5,2,none⟩ (.int .i64 x1)).setCell ⟨g5,3,none⟩ (.int .i64 x2)).drew:=⟨_,rfl⟩
 rw[←hw6]at H ⊢;clear hw6 HI hS f0 c0 f1 c1 f2 c2 f3 c3 f6 c6 r0' r1' r2' r3' z5;have d0:w6.cell? ⟨g5,0,none⟩=some (.int .i64 5):=(Bc H.out.i 0).trans rfl;have d6:w6.cell? ⟨g5,6,none⟩=some (.int .u32 k):=(Bc H.out.i 6).trans rfl;have e6:=Bf H.out.i 6;have e7:g5<w6.heap.size:=Bl H.out.i;go_wp2;rw[Yq]at hQ;apply hQ.out;exact⟨H.out.OH (y0%4294967296)⟩
theorem Aa4:Fb 6:=by
 intro w w5 g5 g7 n7 c7 g cur k x0 x1 x2 x3 y0 y1 HI h4 hne r0' r1' r2' r3' Q
 intros
 rename_i hQ
 replace hQ:=Az hQ;obtain⟨f0,c0⟩:=Aq HI.out 0 _ rfl;obtain⟨f1,c1⟩:=Aq HI.out 1 _ rfl;obtain⟨f2,c2⟩:=Aq HI.out 2 _ rfl;obtain⟨f3,c3⟩:=Aq HI.out 3 _ rfl;obtain⟨f6,c6⟩:=Aq HI.out 6 _ rfl;have z5:g5<w5.heap.size:=Bl HI.out.i;have wr0:IntKind.u32.wrap y0=y0%4294967296:=IntKind.wrap_u32 _;have wr1:IntKind.u32.wrap y1=y1%4294967296:=IntKind.wrap_u32 _;obtain⟨q0,p0,q1,p1,q2,p2,q3,p3⟩:0<n7∧(0:Int)<(n7:Int)∧1<n7∧(1:Int)<(n7:Int)∧2<n7∧(2:Int)<(n7:Int)∧3<n7∧(3:Int)<(n7:Int):=by omega
 clear h4
 conv=>arg 2;whnf
 go_wp2_with fail
 have hS:S4 g7 x0 x1 x2 x3 w5.drew:=⟨r0',r1',r2',r3'⟩
 go_region_held3 (fun W=>S4 g7 x0 x1 x2 x3 W) (first |with_reducible exact hS |with_reducible exact D3 hne _ _ (by assumption)) (first |fail)
 have H:=Az (((HI.out.BX 1 (by decide) (by decide) x0).BX 2 (by decide) (by decide) x1).BX 3 (by decide) (by decide) x2).drew;obtain⟨w6,hw6⟩:∃ w6,w6=(((w5.setCell ⟨g5,1,none⟩ (.int .i64 x0)).setCell ⟨g5,2,none⟩ (.int .i64 x1)).setCell ⟨g5,3,none⟩ (.int .i64 x2)).drew:=⟨_,rfl⟩
 rw[←hw6]at H ⊢;clear hw6 HI hS f0 c0 f1 c1 f2 c2 f3 c3 f6 c6 r0' r1' r2' r3' z5;have d0:w6.cell? ⟨g5,0,none⟩=some (.int .i64 6):=(Bc H.out.i 0).trans rfl;have d6:w6.cell? ⟨g5,6,none⟩=some (.int .u32 k):=(Bc H.out.i 6).trans rfl;have e6:=Bf H.out.i 6;have e7:g5<w6.heap.size:=Bl H.out.i;go_wp2;rw[Yr]at hQ;apply hQ.out;exact⟨H.out.OH (y0%4294967296)⟩
theorem Aa5:Fb 7:=by
 intro w w5 g5 g7 n7 c7 g cur k x0 x1 x2 x3 y0 y1 HI h4 hne r0' r1' r2' r3' Q
 intros
 rename_i hQ
 replace hQ:=Az hQ;obtain⟨f0,c0⟩:=Aq HI.out 0 _ rfl;obtain⟨f1,c1⟩:=Aq HI.out 1 _ rfl;obtain⟨f2,c2⟩:=Aq HI.out 2 _ rfl;obtain⟨f3,c3⟩:=Aq HI.out 3 _ rfl;have z5:g5<w5.heap.size:=Bl HI.out.i;have wr0:IntKind.u32.wrap y0=y0%4294967296:=IntKind.wrap_u32 _;have wr1:IntKind.u32.wrap y1=y1%4294967296:=IntKind.wrap_u32 _;obtain⟨q0,p0,q1,p1,q2,p2,q3,p3⟩:0<n7∧(0:Int)<(n7:Int)∧1<n7∧(1:Int)<(n7:Int)∧2<n7∧(2:Int)<(n7:Int)∧3<n7∧(3:Int)<(n7:Int):=by omega
 clear h4
 conv=>arg 2;whnf
 go_wp2_with fail
 have hS:S4 g7 x0 x1 x2 x3 w5.drew:=⟨r0',r1',r2',r3'⟩
 go_region_held3 (fun W=>S4 g7 x0 x1 x2 x3 W) (first |with_reducible exact hS |with_reducible exact D3 hne _ _ (by assumption)) (first |fail)
 have H:=Az (((HI.out.BX 1 (by decide) (by decide) x0).BX 2 (by decide) (by decide) x1).BX 3 (by decide) (by decide) x2).drew;obtain⟨w6,hw6⟩:∃ w6,w6=(((w5.setCell ⟨g5,1,none⟩ (.int .i64 x0)).setCell ⟨g5,2,none⟩ (.int .i64 x1)).setCell ⟨g5,3,none⟩ (.int .i64 x2)).drew:=⟨_,rfl⟩
 rw[←hw6]at H ⊢;clear hw6 HI hS f0 c0 f1 c1 f2 c2 f3 c3 r0' r1' r2' r3' z5;have d0:w6.cell? ⟨g5,0,none⟩=some (.int .i64 7):=(Bc H.out.i 0).trans rfl;go_wp2;rw[Ys]at hQ;apply hQ.out;exact⟨H.out⟩
theorem Z1:Fb 11:=by
 intro w w5 g5 g7 n7 c7 g cur k x0 x1 x2 x3 y0 y1 HI h4 hne r0' r1' r2' r3' Q
 intros
 rename_i hQ
 replace hQ:=Az hQ;obtain⟨f0,c0⟩:=Aq HI.out 0 _ rfl;obtain⟨f1,c1⟩:=Aq HI.out 1 _ rfl;obtain⟨f2,c2⟩:=Aq HI.out 2 _ rfl;obtain⟨f3,c3⟩:=Aq HI.out 3 _ rfl;have z5:g5<w5.heap.size:=Bl HI.out.i;have wr0:IntKind.u32.wrap y0=y0%4294967296:=IntKind.wrap_u32 _;have wr1:IntKind.u32.wrap y1=y1%4294967296:=IntKind.wrap_u32 _;obtain⟨q0,p0,q1,p1,q2,p2,q3,p3⟩:0<n7∧(0:Int)<(n7:Int)∧1<n7∧(1:Int)<(n7:Int)∧2<n7∧(2:Int)<(n7:Int)∧3<n7∧(3:Int)<(n7:Int):=by omega
 clear h4
 conv=>arg 2;whnf
 go_wp2_with fail
 have hS:S4 g7 x0 x1 x2 x3 w5.drew:=⟨r0',r1',r2',r3'⟩
 go_region_held3 (fun W=>S4 g7 x0 x1 x2 x3 W) (first |with_reducible exact hS |with_reducible exact D3 hne _ _ (by assumption)) (first |fail)
 have H:=Az (((HI.out.BX 1 (by decide) (by decide) x0).BX 2 (by decide) (by decide) x1).BX 3 (by decide) (by decide) x2).drew;obtain⟨w6,hw6⟩:∃ w6,w6=(((w5.setCell ⟨g5,1,none⟩ (.int .i64 x0)).setCell ⟨g5,2,none⟩ (.int .i64 x1)).setCell ⟨g5,3,none⟩ (.int .i64 x2)).drew:=⟨_,rfl⟩
 rw[←hw6]at H ⊢;clear hw6 HI hS f0 c0 f1 c1 f2 c2 f3 c3 r0' r1' r2' r3' z5;have d0:w6.cell? ⟨g5,0,none⟩=some (.int .i64 11):=(Bc H.out.i 0).trans rfl;go_wp2;rw[Wu]at hQ;apply hQ.out;exact⟨H.out⟩
theorem Z3:Fb 22:=by
 intro w w5 g5 g7 n7 c7 g cur k x0 x1 x2 x3 y0 y1 HI h4 hne r0' r1' r2' r3' Q
 intros
 rename_i hQ
 replace hQ:=Az hQ;obtain⟨f0,c0⟩:=Aq HI.out 0 _ rfl;obtain⟨f1,c1⟩:=Aq HI.out 1 _ rfl;obtain⟨f2,c2⟩:=Aq HI.out 2 _ rfl;obtain⟨f3,c3⟩:=Aq HI.out 3 _ rfl;have z5:g5<w5.heap.size:=Bl HI.out.i;have wr0:IntKind.u32.wrap y0=y0%4294967296:=IntKind.wrap_u32 _;have wr1:IntKind.u32.wrap y1=y1%4294967296:=IntKind.wrap_u32 _;obtain⟨q0,p0,q1,p1,q2,p2,q3,p3⟩:0<n7∧(0:Int)<(n7:Int)∧1<n7∧(1:Int)<(n7:Int)∧2<n7∧(2:Int)<(n7:Int)∧3<n7∧(3:Int)<(n7:Int):=by omega
 clear h4
 conv=>arg 2;whnf
 go_wp2_with fail
 have hS:S4 g7 x0 x1 x2 x3 w5.drew:=⟨r0',r1',r2',r3'⟩
 go_region_held3 (fun W=>S4 g7 x0 x1 x2 x3 W) (first |with_reducible exact hS |with_reducible exact D3 hne _ _ (by assumption)) (first |fail)
 have H:=Az (((HI.out.BX 1 (by decide) (by decide) x0).BX 2 (by decide) (by decide) x1).BX 3 (by decide) (by decide) x2).drew;obtain⟨w6,hw6⟩:∃ w6,w6=(((w5.setCell ⟨g5,1,none⟩ (.int .i64 x0)).setCell ⟨g5,2,none⟩ (.int .i64 x1)).setCell ⟨g5,3,none⟩ (.int .i64 x2)).drew:=⟨_,rfl⟩
 rw[←hw6]at H ⊢;clear hw6 HI hS f0 c0 f1 c1 f2 c2 f3 c3 r0' r1' r2' r3' z5;have d0:w6.cell? ⟨g5,0,none⟩=some (.int .i64 22):=(Bc H.out.i 0).trans rfl;go_wp2;rw[Ww]at hQ;apply hQ.out;exact⟨H.out⟩
theorem Aa6:Fb 8:=by
 intro w w5 g5 g7 n7 c7 g cur k x0 x1 x2 x3 y0 y1 HI h4 hne r0' r1' r2' r3' Q
 intros
 rename_i hQ
 replace hQ:=Az hQ;obtain⟨f0,c0⟩:=Aq HI.out 0 _ rfl;obtain⟨f2,c2⟩:=Aq HI.out 2 _ rfl;obtain⟨f3,c3⟩:=Aq HI.out 3 _ rfl;obtain⟨f7,c7⟩:=Aq HI.out 7 _ rfl;have z5:g5<w5.heap.size:=Bl HI.out.i;have wr0:IntKind.u32.wrap y0=y0%4294967296:=IntKind.wrap_u32 _;have wr1:IntKind.u32.wrap y1=y1%4294967296:=IntKind.wrap_u32 _;obtain⟨q0,p0,q1,p1,q2,p2,q3,p3⟩:0<n7∧(0:Int)<(n7:Int)∧1<n7∧(1:Int)<(n7:Int)∧2<n7∧(2:Int)<(n7:Int)∧3<n7∧(3:Int)<(n7:Int):=by omega
 clear h4
 conv=>arg 2;whnf
 go_wp2_with fail
 have hS:S4 g7 x0 x1 x2 x3 w5.drew:=⟨r0',r1',r2',r3'⟩
 go_region_held3 (fun W=>S4 g7 x0 x1 x2 x3 W) (first |with_reducible exact hS |with_reducible exact D3 hne _ _ (by assumption)) (first |fail)
 have H:=Az (((HI.out.BX 2 (by decide) (by decide) x0).BX 3 (by decide) (by decide) x1).Sx y0).drew;obtain⟨w6,hw6⟩:∃ w6,w6=(((w5.setCell ⟨g5,2,none⟩ (.int .i64 x0)).setCell ⟨g5,3,none⟩ (.int .i64 x1)).setCell ⟨g5,7,none⟩ (.int .i64 y0)).drew:=⟨_,rfl⟩
 rw[←hw6]at H ⊢;clear hw6 HI hS f0 c0 f2 c2 f3 c3 f7 c7 r0' r1' r2' r3' z5;go_wp2;rw[Yt]at hQ;apply hQ.out;exact⟨H.out⟩
theorem Aa7:Fb 9:=by
 intro w w5 g5 g7 n7 c7 g cur k x0 x1 x2 x3 y0 y1 HI h4 hne r0' r1' r2' r3' Q
 intros
 rename_i hQ
 replace hQ:=Az hQ;obtain⟨f0,c0⟩:=Aq HI.out 0 _ rfl;obtain⟨f2,c2⟩:=Aq HI.out 2 _ rfl;obtain⟨f3,c3⟩:=Aq HI.out 3 _ rfl;obtain⟨f7,c7⟩:=Aq HI.out 7 _ rfl;have z5:g5<w5.heap.size:=Bl HI.out.i;have wr0:IntKind.u32.wrap y0=y0%4294967296:=IntKind.wrap_u32 _;have wr1:IntKind.u32.wrap y1=y1%4294967296:=IntKind.wrap_u32 _;obtain⟨q0,p0,q1,p1,q2,p2,q3,p3⟩:0<n7∧(0:Int)<(n7:Int)∧1<n7∧(1:Int)<(n7:Int)∧2<n7∧(2:Int)<(n7:Int)∧3<n7∧(3:Int)<(n7:Int):=by omega
 clear h4
 conv=>arg 2;whnf
 go_wp2_with fail
 have hS:S4 g7 x0 x1 x2 x3 w5.drew:=⟨r0',r1',r2',r3'⟩
 go_region_held3 (fun W=>S4 g7 x0 x1 x2 x3 W) (first |with_reducible exact hS |with_reducible exact D3 hne _ _ (by assumption)) (first |fail)
 have H:=Az (((HI.out.BX 2 (by decide) (by decide) x0).BX 3 (by decide) (by decide) x1).Sx y0).drew;obtain⟨w6,hw6⟩:∃ w6,w6=(((w5.setCell ⟨g5,2,none⟩ (.int .i64 x0)).setCell ⟨g5,3,none⟩ (.int .i64 x1)).setCell ⟨g5,7,none⟩ (.int .i64 y0)).drew:=⟨_,rfl⟩
 rw[←hw6]at H ⊢;clear hw6 HI hS f0 c0 f2 c2 f3 c3 f7 c7 r0' r1' r2' r3' z5;go_wp2;rw[Yu]at hQ;apply hQ.out;exact⟨H.out⟩
theorem Z0:Fb 10:=by
 intro w w5 g5 g7 n7 c7 g cur k x0 x1 x2 x3 y0 y1 HI h4 hne r0' r1' r2' r3' Q
 intros
 rename_i hQ
 replace hQ:=Az hQ;obtain⟨f0,c0⟩:=Aq HI.out 0 _ rfl;obtain⟨f2,c2⟩:=Aq HI.out 2 _ rfl;obtain⟨f3,c3⟩:=Aq HI.out 3 _ rfl;obtain⟨f7,c7⟩:=Aq HI.out 7 _ rfl;have z5:g5<w5.heap.size:=Bl HI.out.i;have wr0:IntKind.u32.wrap y0=y0%4294967296:=IntKind.wrap_u32 _;have wr1:IntKind.u32.wrap y1=y1%4294967296:=IntKind.wrap_u32 _;obtain⟨q0,p0,q1,p1,q2,p2,q3,p3⟩:0<n7∧(0:Int)<(n7:Int)∧1<n7∧(1:Int)<(n7:Int)∧2<n7∧(2:Int)<(n7:Int)∧3<n7∧(3:Int)<(n7:Int):=by omega
 clear h4
 conv=>arg 2;whnf
 go_wp2_with fail
 have hS:S4 g7 x0 x1 x2 x3 w5.drew:=⟨r0',r1',r2',r3'⟩
 go_region_held3 (fun W=>S4 g7 x0 x1 x2 x3 W) (first |with_reducible exact hS |with_reducible exact D3 hne _ _ (by assumption)) (first |fail)
 have H:=Az (((HI.out.BX 2 (by decide) (by decide) x0).BX 3 (by decide) (by decide) x1).Sx y0).drew;obtain⟨w6,hw6⟩:∃ w6,w6=(((w5.setCell ⟨g5,2,none⟩ (.int .i64 x0)).setCell ⟨g5,3,none⟩ (.int .i64 x1)).setCell ⟨g5,7,none⟩ (.int .i64 y0)).drew:=⟨_,rfl⟩
 rw[←hw6]at H ⊢;clear hw6 HI hS f0 c0 f2 c2 f3 c3 f7 c7 r0' r1' r2' r3' z5;go_wp2;rw[Wt]at hQ;apply hQ.out;exact⟨H.out⟩
theorem Z2:Fb 16:=by
 intro w w5 g5 g7 n7 c7 g cur k x0 x1 x2 x3 y0 y1 HI h4 hne r0' r1' r2' r3' Q
 intros
 rename_i hQ
 replace hQ:=Az hQ;obtain⟨f0,c0⟩:=Aq HI.out 0 _ rfl;obtain⟨f1,c1⟩:=Aq HI.out 1 _ rfl;obtain⟨f2,c2⟩:=Aq HI.out 2 _ rfl;obtain⟨f3,c3⟩:=Aq HI.out 3 _ rfl;obtain⟨f4,c4⟩:=Aq HI.out 4 _ rfl;obtain⟨f5,c5⟩:=Aq HI.out 5 _ rfl;have z5:g5<w5.heap.size:=Bl HI.out.i;have wr0:IntKind.u32.wrap y0=y0%4294967296:=IntKind.wrap_u32 _;have wr1:IntKind.u32.wrap y1=y1%4294967296:=IntKind.wrap_u32 _;obtain⟨q0,p0,q1,p1,q2,p2,q3,p3⟩:0<n7∧(0:Int)<(n7:Int)∧1<n7∧(1:Int)<(n7:Int)∧2<n7∧(2:Int)<(n7:Int)∧3<n7∧(3:Int)<(n7:Int):=by omega
 clear h4
 conv=>arg 2;whnf
 go_wp2_with fail
 have hS:S4 g7 x0 x1 x2 x3 w5.drew:=⟨r0',r1',r2',r3'⟩
 go_region_held3 (fun W=>S4 g7 x0 x1 x2 x3 W) (first |with_reducible exact hS |with_reducible exact D3 hne _ _ (by assumption)) (first |fail)
 have H:=Az (((((HI.out.BX 1 (by decide) (by decide) x0).BX 2 (by decide) (by decide) x1).BX 3 (by decide) (by decide) x2).BX 4 (by decide) (by decide) x3).BX 5 (by decide) (by decide) y0).drew;obtain⟨w6,hw6⟩:∃ w6,w6=(((((w5.setCell ⟨g5,1,none⟩ (.int .i64 x0)).setCell ⟨g5,2,none⟩ (.int .i64 x1)).setCell ⟨g5,3,none⟩ (.int .i64 x2)).setCell ⟨g5,4,none⟩ (.int .i64 x3)).setCell ⟨g5,5,none⟩ (.int .i64 y0)).drew:=⟨_,rfl⟩
 rw[←hw6]at H ⊢;clear hw6 HI hS f0 c0 f1 c1 f2 c2 f3 c3 f4 c4 f5 c5 r0' r1' r2' r3' z5;have d0:w6.cell? ⟨g5,0,none⟩=some (.int .i64 16):=(Bc H.out.i 0).trans rfl;go_wp2;rw[Wv]at hQ;apply hQ.out;exact⟨H.out⟩
theorem YY:Fb 18:=by
 intro w w5 g5 g7 n7 c7 g cur k x0 x1 x2 x3 y0 y1 HI h4 hne r0' r1' r2' r3' Q
 intros
 rename_i hQ
 replace hQ:=Az hQ;obtain⟨f0,c0⟩:=Aq HI.out 0 _ rfl;obtain⟨f1,c1⟩:=Aq HI.out 1 _ rfl;obtain⟨f2,c2⟩:=Aq HI.out 2 _ rfl;obtain⟨f3,c3⟩:=Aq HI.out 3 _ rfl;obtain⟨f4,c4⟩:=Aq HI.out 4 _ rfl;obtain⟨f5,c5⟩:=Aq HI.out 5 _ rfl;have z5:g5<w5.heap.size:=Bl HI.out.i;have wr0:IntKind.u32.wrap y0=y0%4294967296:=IntKind.wrap_u32 _;have wr1:IntKind.u32.wrap y1=y1%4294967296:=IntKind.wrap_u32 _;obtain⟨q0,p0,q1,p1,q2,p2,q3,p3⟩:0<n7∧(0:Int)<(n7:Int)∧1<n7∧(1:Int)<(n7:Int)∧2<n7∧(2:Int)<(n7:Int)∧3<n7∧(3:Int)<(n7:Int):=by omega
 clear h4
 conv=>arg 2;whnf
 go_wp2_with fail
 have hS:S4 g7 x0 x1 x2 x3 w5.drew:=⟨r0',r1',r2',r3'⟩
 go_region_held3 (fun W=>S4 g7 x0 x1 x2 x3 W) (first |with_reducible exact hS |with_reducible exact D3 hne _ _ (by assumption)) (first |fail)
 have H:=Az (((((HI.out.BX 1 (by decide) (by decide) x0).BX 2 (by decide) (by decide) x1).BX 3 (by decide) (by decide) x2).BX 4 (by decide) (by decide) x3).BX 5 (by decide) (by decide) y0).drew;obtain⟨w6,hw6⟩:∃ w6,w6=(((((w5.setCell ⟨g5,1,none⟩ (.int .i64 x0)).setCell ⟨g5,2,none⟩ (.int .i64 x1)).setCell ⟨g5,3,none⟩ (.int .i64 x2)).setCell ⟨g5,4,none⟩ (.int .i64 x3)).setCell ⟨g5,5,none⟩ (.int .i64 y0)).drew:=⟨_,rfl⟩
 rw[←hw6]at H ⊢;clear hw6 HI hS f0 c0 f1 c1 f2 c2 f3 c3 f4 c4 f5 c5 r0' r1' r2' r3' z5;have d0:w6.cell? ⟨g5,0,none⟩=some (.int .i64 18):=(Bc H.out.i 0).trans rfl;go_wp2;rw[Wh]at hQ;apply hQ.out;exact⟨H.out⟩
theorem YZ:Fb 19:=by
 intro w w5 g5 g7 n7 c7 g cur k x0 x1 x2 x3 y0 y1 HI h4 hne r0' r1' r2' r3' Q
 intros
 rename_i hQ
 replace hQ:=Az hQ;obtain⟨f0,c0⟩:=Aq HI.out 0 _ rfl;obtain⟨f1,c1⟩:=Aq HI.out 1 _ rfl;obtain⟨f2,c2⟩:=Aq HI.out 2 _ rfl;obtain⟨f3,c3⟩:=Aq HI.out 3 _ rfl;obtain⟨f4,c4⟩:=Aq HI.out 4 _ rfl;obtain⟨f5,c5⟩:=Aq HI.out 5 _ rfl;have z5:g5<w5.heap.size:=Bl HI.out.i;have wr0:IntKind.u32.wrap y0=y0%4294967296:=IntKind.wrap_u32 _;have wr1:IntKind.u32.wrap y1=y1%4294967296:=IntKind.wrap_u32 _;obtain⟨q0,p0,q1,p1,q2,p2,q3,p3⟩:0<n7∧(0:Int)<(n7:Int)∧1<n7∧(1:Int)<(n7:Int)∧2<n7∧(2:Int)<(n7:Int)∧3<n7∧(3:Int)<(n7:Int):=by omega
 clear h4
 conv=>arg 2;whnf
 go_wp2_with fail
 have hS:S4 g7 x0 x1 x2 x3 w5.drew:=⟨r0',r1',r2',r3'⟩
 go_region_held3 (fun W=>S4 g7 x0 x1 x2 x3 W) (first |with_reducible exact hS |with_reducible exact D3 hne _ _ (by assumption)) (first |fail)
 have H:=Az (((((HI.out.BX 1 (by decide) (by decide) x0).BX 2 (by decide) (by decide) x1).BX 3 (by decide) (by decide) x2).BX 4 (by decide) (by decide) x3).BX 5 (by decide) (by decide) y0).drew;obtain⟨w6,hw6⟩:∃ w6,w6=(((((w5.setCell ⟨g5,1,none⟩ (.int .i64 x0)).setCell ⟨g5,2,none⟩ (.int .i64 x1)).setCell ⟨g5,3,none⟩ (.int .i64 x2)).setCell ⟨g5,4,none⟩ (.int .i64 x3)).setCell ⟨g5,5,none⟩ (.int .i64 y0)).drew:=⟨_,rfl⟩
 rw[←hw6]at H ⊢;clear hw6 HI hS f0 c0 f1 c1 f2 c2 f3 c3 f4 c4 f5 c5 r0' r1' r2' r3' z5;have d0:w6.cell? ⟨g5,0,none⟩=some (.int .i64 19):=(Bc H.out.i 0).trans rfl;go_wp2;rw[Wi]at hQ;apply hQ.out;exact⟨H.out⟩
theorem Za:Fb 20:=by
 intro w w5 g5 g7 n7 c7 g cur k x0 x1 x2 x3 y0 y1 HI h4 hne r0' r1' r2' r3' Q
 intros
 rename_i hQ
 replace hQ:=Az hQ;obtain⟨f0,c0⟩:=Aq HI.out 0 _ rfl;obtain⟨f1,c1⟩:=Aq HI.out 1 _ rfl;obtain⟨f2,c2⟩:=Aq HI.out 2 _ rfl;obtain⟨f3,c3⟩:=Aq HI.out 3 _ rfl;obtain⟨f4,c4⟩:=Aq HI.out 4 _ rfl;obtain⟨f5,c5⟩:=Aq HI.out 5 _ rfl;obtain⟨f6,c6⟩:=Aq HI.out 6 _ rfl;have z5:g5<w5.heap.size:=Bl HI.out.i;have wr0:IntKind.u32.wrap y0=y0%4294967296:=IntKind.wrap_u32 _;have wr1:IntKind.u32.wrap y1=y1%4294967296:=IntKind.wrap_u32 _;obtain⟨q0,p0,q1,p1,q2,p2,q3,p3⟩:0<n7∧(0:Int)<(n7:Int)∧1<n7∧(1:Int)<(n7:Int)∧2<n7∧(2:Int)<(n7:Int)∧3<n7∧(3:Int)<(n7:Int):=by omega
 clear h4
 conv=>arg 2;whnf
 go_wp2_with fail
 have hS:S4 g7 x0 x1 x2 x3 w5.drew:=⟨r0',r1',r2',r3'⟩
 go_region_held3 (fun W=>S4 g7 x0 x1 x2 x3 W) (first |with_reducible exact hS |with_reducible exact D3 hne _ _ (by assumption)) (first |fail)
 have H:=Az (((((HI.out.BX 1 (by decide) (by decide) x0).BX 2 (by decide) (by decide) x1).BX 3 (by decide) (by decide) x2).BX 4 (by decide) (by decide) x3).BX 5 (by decide) (by decide) y0).drew;obtain⟨w6,hw6⟩:∃ w6,w6=(((((w5.setCell ⟨g5,1,none⟩ (.int .i64 x0)).setCell ⟨g5,2,none⟩ (.int .i64 x1)).setCell ⟨g5,3,none⟩ (.int .i64 x2)).setCell ⟨g5,4,none⟩ (.int .i64 x3)).setCell ⟨g5,5,none⟩ (.int .i64 y0)).drew:=⟨_,rfl⟩
 rw[←hw6]at H ⊢;clear hw6 HI hS f0 c0 f1 c1 f2 c2 f3 c3 f4 c4 f5 c5 f6 c6 r0' r1' r2' r3' z5;have d0:w6.cell? ⟨g5,0,none⟩=some (.int .i64 20):=(Bc H.out.i 0).trans rfl;have d6:w6.cell? ⟨g5,6,none⟩=some (.int .u32 k):=(Bc H.out.i 6).trans rfl;have e6:=Bf H.out.i 6;have e7:g5<w6.heap.size:=Bl H.out.i;go_wp2;rw[Wj]at hQ;apply hQ.out;exact⟨H.out.OH (y1%4294967296)⟩
theorem Zb:Fb 21:=by
 intro w w5 g5 g7 n7 c7 g cur k x0 x1 x2 x3 y0 y1 HI h4 hne r0' r1' r2' r3' Q
 intros
 rename_i hQ
 replace hQ:=Az hQ;obtain⟨f0,c0⟩:=Aq HI.out 0 _ rfl;obtain⟨f1,c1⟩:=Aq HI.out 1 _ rfl;obtain⟨f2,c2⟩:=Aq HI.out 2 _ rfl;obtain⟨f3,c3⟩:=Aq HI.out 3 _ rfl;obtain⟨f4,c4⟩:=Aq HI.out 4 _ rfl;obtain⟨f5,c5⟩:=Aq HI.out 5 _ rfl;obtain⟨f7,c7⟩:=Aq HI.out 7 _ rfl;have z5:g5<w5.heap.size:=Bl HI.out.i;have wr0:IntKind.u32.wrap y0=y0%4294967296:=IntKind.wrap_u32 _;have wr1:IntKind.u32.wrap y1=y1%4294967296:=IntKind.wrap_u32 _;obtain⟨q0,p0,q1,p1,q2,p2,q3,p3⟩:0<n7∧(0:Int)<(n7:Int)∧1<n7∧(1:Int)<(n7:Int)∧2<n7∧(2:Int)<(n7:Int)∧3<n7∧(3:Int)<(n7:Int):=by omega
 clear h4
 conv=>arg 2;whnf
 go_wp2_with fail
 have hS:S4 g7 x0 x1 x2 x3 w5.drew:=⟨r0',r1',r2',r3'⟩
 go_region_held3 (fun W=>S4 g7 x0 x1 x2 x3 W) (first |with_reducible exact hS |with_reducible exact D3 hne _ _ (by assumption)) (first |fail)
 have H:=Az (((((HI.out.BX 1 (by decide) (by decide) x0).BX 2 (by decide) (by decide) x1).BX 3 (by decide) (by decide) x2).BX 4 (by decide) (by decide) x3).BX 5 (by decide) (by decide) y0).drew;obtain⟨w6,hw6⟩:∃ w6,w6=(((((w5.setCell ⟨g5,1,none⟩ (.int .i64 x0)).setCell ⟨g5,2,none⟩ (.int .i64 x1)).setCell ⟨g5,3,none⟩ (.int .i64 x2)).setCell ⟨g5,4,none⟩ (.int .i64 x3)).setCell ⟨g5,5,none⟩ (.int .i64 y0)).drew:=⟨_,rfl⟩
 rw[←hw6]at H ⊢;clear hw6 HI hS f0 c0 f1 c1 f2 c2 f3 c3 f4 c4 f5 c5 f7 c7 r0' r1' r2' r3' z5;have d0:w6.cell? ⟨g5,0,none⟩=some (.int .i64 21):=(Bc H.out.i 0).trans rfl;have d6:w6.cell? ⟨g5,7,none⟩=some (.int .i64 0):=(Bc H.out.i 7).trans rfl;have e6:=Bf H.out.i 7;have e7:g5<w6.heap.size:=Bl H.out.i;go_wp2;rw[Wk]at hQ;apply hQ.out;exact⟨H.out.Sx y1⟩
theorem Zc:Fb 17:=by
 intro w w5 g5 g7 n7 c7 g cur k x0 x1 x2 x3 y0 y1 HI h4 hne r0' r1' r2' r3' Q
 intros
 rename_i hQ
 replace hQ:=Az hQ;obtain⟨f0,c0⟩:=Aq HI.out 0 _ rfl;obtain⟨f2,c2⟩:=Aq HI.out 2 _ rfl;obtain⟨f3,c3⟩:=Aq HI.out 3 _ rfl;obtain⟨f5,c5⟩:=Aq HI.out 5 _ rfl;have z5:g5<w5.heap.size:=Bl HI.out.i;have wr0:IntKind.u32.wrap y0=y0%4294967296:=IntKind.wrap_u32 _;have wr1:IntKind.u32.wrap y1=y1%4294967296:=IntKind.wrap_u32 _;obtain⟨q0,p0,q1,p1,q2,p2,q3,p3⟩:0<n7∧(0:Int)<(n7:Int)∧1<n7∧(1:Int)<(n7:Int)∧2<n7∧(2:Int)<(n7:Int)∧3<n7∧(3:Int)<(n7:Int):=by omega
 clear h4
 conv=>arg 2;whnf
 go_wp2_with fail
 have hS:S4 g7 x0 x1 x2 x3 w5.drew:=⟨r0',r1',r2',r3'⟩
 go_region_held3 (fun W=>S4 g7 x0 x1 x2 x3 W) (first |with_reducible exact hS |with_reducible exact D3 hne _ _ (by assumption)) (first |fail)
 have H:=Az (((HI.out.BX 2 (by decide) (by decide) x0).BX 3 (by decide) (by decide) x1).BX 5 (by decide) (by decide) y0).drew;obtain⟨w6,hw6⟩:∃ w6,w6=(((w5.setCell ⟨g5,2,none⟩ (.int .i64 x0)).setCell ⟨g5,3,none⟩ (.int .i64 x1)).setCell ⟨g5,5,none⟩ (.int .i64 y0)).drew:=⟨_,rfl⟩
 rw[←hw6]at H ⊢;clear hw6 HI hS f0 c0 f2 c2 f3 c3 f5 c5 r0' r1' r2' r3' z5;go_wp2;rw[Wl]at hQ;apply hQ.out;exact⟨H.out⟩
theorem Zd:Fb 23:=by
 intro w w5 g5 g7 n7 c7 g cur k x0 x1 x2 x3 y0 y1 HI h4 hne r0' r1' r2' r3' Q
 intros
 rename_i hQ
 replace hQ:=Az hQ;obtain⟨f0,c0⟩:=Aq HI.out 0 _ rfl;obtain⟨f2,c2⟩:=Aq HI.out 2 _ rfl;have z5:g5<w5.heap.size:=Bl HI.out.i;have wr0:IntKind.u32.wrap y0=y0%4294967296:=IntKind.wrap_u32 _;have wr1:IntKind.u32.wrap y1=y1%4294967296:=IntKind.wrap_u32 _;obtain⟨q0,p0,q1,p1,q2,p2,q3,p3⟩:0<n7∧(0:Int)<(n7:Int)∧1<n7∧(1:Int)<(n7:Int)∧2<n7∧(2:Int)<(n7:Int)∧3<n7∧(3:Int)<(n7:Int):=by omega
 clear h4
 conv=>arg 2;whnf
 go_wp2;rw[Wm]at hQ;apply hQ.out;exact⟨HI.out.BX 2 (by decide) (by decide) x0⟩
theorem Aai:Fb 0:=by
 intro w w5 g5 g7 n7 c7 g cur k x0 x1 x2 x3 y0 y1 HI h4 hne r0' r1' r2' r3' Q
 intros
 rename_i hQ
 replace hQ:=Az hQ;obtain⟨f0,c0⟩:=Aq HI.out 0 _ rfl;have z5:g5<w5.heap.size:=Bl HI.out.i;have wr0:IntKind.u32.wrap y0=y0%4294967296:=IntKind.wrap_u32 _;have wr1:IntKind.u32.wrap y1=y1%4294967296:=IntKind.wrap_u32 _;obtain⟨q0,p0,q1,p1,q2,p2,q3,p3⟩:0<n7∧(0:Int)<(n7:Int)∧1<n7∧(1:Int)<(n7:Int)∧2<n7∧(2:Int)<(n7:Int)∧3<n7∧(3:Int)<(n7:Int):=by omega
 clear h4
 conv=>arg 2;whnf
 go_wp2;rw[Yi]at hQ;apply hQ.out;exact⟨HI.out⟩
theorem Ze:Fb 12:=by
 intro w w5 g5 g7 n7 c7 g cur k x0 x1 x2 x3 y0 y1 HI h4 hne r0' r1' r2' r3' Q
 intros
 rename_i hQ
 replace hQ:=Az hQ;obtain⟨f0,c0⟩:=Aq HI.out 0 _ rfl;obtain⟨f6,c6⟩:=Aq HI.out 6 _ rfl;have z5:g5<w5.heap.size:=Bl HI.out.i;have wr0:IntKind.u32.wrap y0=y0%4294967296:=IntKind.wrap_u32 _;have wr1:IntKind.u32.wrap y1=y1%4294967296:=IntKind.wrap_u32 _;obtain⟨q0,p0,q1,p1,q2,p2,q3,p3⟩:0<n7∧(0:Int)<(n7:Int)∧1<n7∧(1:Int)<(n7:Int)∧2<n7∧(2:Int)<(n7:Int)∧3<n7∧(3:Int)<(n7:Int):=by omega
 clear h4
 conv=>arg 2;whnf
 go_wp2;rw[Wn]at hQ;apply hQ.out;exact⟨HI.out.OH (y0%4294967296)⟩
theorem Zf:Fb 13:=by
 intro w w5 g5 g7 n7 c7 g cur k x0 x1 x2 x3 y0 y1 HI h4 hne r0' r1' r2' r3' Q
 intros
 rename_i hQ
 replace hQ:=Az hQ;obtain⟨f0,c0⟩:=Aq HI.out 0 _ rfl;obtain⟨f6,c6⟩:=Aq HI.out 6 _ rfl;have z5:g5<w5.heap.size:=Bl HI.out.i;have wr0:IntKind.u32.wrap y0=y0%4294967296:=IntKind.wrap_u32 _;have wr1:IntKind.u32.wrap y1=y1%4294967296:=IntKind.wrap_u32 _;obtain⟨q0,p0,q1,p1,q2,p2,q3,p3⟩:0<n7∧(0:Int)<(n7:Int)∧1<n7∧(1:Int)<(n7:Int)∧2<n7∧(2:Int)<(n7:Int)∧3<n7∧(3:Int)<(n7:Int):=by omega
 clear h4
 conv=>arg 2;whnf
 go_wp2;rw[Wo]at hQ;apply hQ.out;exact⟨HI.out.OH (y0%4294967296)⟩
theorem YF(nm:Int)(hnm:nm=0∨(1≤nm∧nm≤13)∨(16≤nm∧nm≤23)):Fb nm:=by
 have hc:nm=0∨nm=1∨nm=2∨nm=3∨nm=4∨nm=5∨nm=6∨nm=7∨nm=8∨nm=9∨nm=10∨nm=11∨nm=12∨nm=13∨nm=16∨nm=17∨nm=18∨nm=19∨nm=20∨nm=21∨nm=22∨nm=23:=by omega
 clear hnm;rcases hc with rfl |rfl |rfl |rfl |rfl |rfl |rfl |rfl |rfl |rfl |rfl |rfl |rfl |rfl |rfl |rfl |rfl |rfl |rfl |rfl |rfl |rfl
 ·exact Aai
 ·exact Aaz
 ·exact Aa0
 ·exact Aa1
 ·exact Aa2
 ·exact Aa3
 ·exact Aa4
 ·exact Aa5
 ·exact Aa6
 ·exact Aa7
 ·exact Z0
 ·exact Z1
 ·exact Ze
 ·exact Zf
 ·exact Z2
 ·exact Zc
 ·exact YY
 ·exact YZ
 ·exact Za
 ·exact Zb
 ·exact Z3
 ·exact Zd
end
end Go.Proofs.YtjjpiefgdggghaaGreatDoor

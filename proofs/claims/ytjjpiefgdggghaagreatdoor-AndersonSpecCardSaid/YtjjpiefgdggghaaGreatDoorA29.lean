/- Parts: RefName7, RefSwitchKit, RefSwitchA, RefSwitchB, RefSwitchC, RefSwitch. -/
import Derived.Test.YtjjpiefgdggghaaGreatDoorA03
import Derived.Test.YtjjpiefgdggghaaGreatDoorA06
import Derived.Test.YtjjpiefgdggghaaGreatDoorA04
import Derived.Test.YtjjpiefgdggghaaGreatDoorA28
set_option linter.unusedVariables false
set_option linter.unusedSimpArgs false
set_option maxRecDepth 100000
set_option maxHeartbeats 40000000
namespace Go.Proofs.YtjjpiefgdggghaaGreatDoor
section
open Go.RowKit Go.Proofs.YtjjpiefgdggghaaGreatDoorW.PrintWords
theorem OJ(l:List UInt8)(i:Nat)(hi:i<l.length)(W:World):(Instr.index 9 (.string ⟨l.toArray⟩) (.int .i64 (i:Int))).run Tryz.prog W=.ok (.int .u8 ((l.getD i 0).toNat:Int)) W:=by
 rw[run_index_string W 9 _ .i64 i Tryz.underlying9,dif_pos ⟨by omega,by simp[ByteArray.size];omega⟩];have:(⟨l.toArray⟩:ByteArray)[(i:Int).toNat]'(by simp[ByteArray.size];omega)=l.getD i 0:=by
  simp[List.getD_eq_getElem?_getD,List.getElem?_eq_getElem hi];rfl
 rw[this]
theorem I3(l:List UInt8)(w:World)(hl:l.length≤1000000):Calls Tryz.prog 63 #[.string ⟨l.toArray⟩] w fun e w'=>e=.returned (.bool (BY l))∧Below w.heap.size w w':=by
 obtain⟨r,hr⟩:∃ r,BY l=r:=⟨_,rfl⟩
 rw[hr];have hsz:(⟨l.toArray⟩:ByteArray).size=l.length:=by simp[ByteArray.size]
 replace hr:=Az hr;go_enter Tryz.func63,Tryz.ntmps63;by_cases h1:l.length<1
 ·obtain rfl:r=false:=by rw[←hr.out,BY,decide_eq_false (by omega)];rfl
  have i1:(l.length:Int)<1:=by omega
  clear h1;go_wp2;go_ret;exact⟨rfl,Below.refl _ _⟩
 have i1:¬(l.length:Int)<1:=by omega
 by_cases h2:16<l.length
 ·obtain rfl:r=false:=by rw[←hr.out,BY,decide_eq_false (by omega)];rfl
  have i2:(16:Int)<(l.length:Int):=by omega
  clear h1 h2;go_wp2;go_ret;exact⟨rfl,Below.refl _ _⟩
 have i2:¬(16:Int)<(l.length:Int):=by omega
 have hx0:∀ W,(Instr.index 9 (.string ⟨l.toArray⟩) (.int .i64 0)).run Tryz.prog W=.ok (.int .u8 ((l.getD 0 0).toNat:Int)) W:=fun W=>OJ l 0 (by omega) W
 have hlow0:Eg (l.getD 0 0)=decide (97≤(l.getD 0 0).toNat∧(l.getD 0 0).toNat≤122):=rfl;have hbad0:Eg (l.getD 0 0)=false→r=false:=fun h=>by rw[←hr.out];exact JP (by omega) h
 have hgood0:Eg (l.getD 0 0)=true→PY l 0∧Eg (l.getD 0 0)=true:=fun h=>⟨⟨fun j hj=>by omega,fun h=>by omega⟩,h⟩
 rw[hlow0]at hbad0;obtain⟨b0,hb0⟩:∃ b,(l.getD 0 0).toNat=b:=⟨_,rfl⟩
 rw[hb0]at hx0 hbad0;by_cases c1:b0<97
 ·obtain rfl:r=false:=hbad0 (decide_eq_false (by omega));have r1:decide ((b0:Int)<97)=true:=decide_eq_true (by omega);clear hbad0 hgood0 hlow0 hb0;go_wp2;go_ret;exact⟨rfl,Below.refl _ _⟩
 have r1:decide ((b0:Int)<97)=false:=decide_eq_false (by omega);by_cases c2:122<b0
 ·obtain rfl:r=false:=hbad0 (decide_eq_false (by omega));have r2:decide (122<(b0:Int))=true:=decide_eq_true (by omega);clear hbad0 hgood0 hlow0 hb0;go_wp2;go_ret;exact⟨rfl,Below.refl _ _⟩
 have r2:decide (122<(b0:Int))=false:=decide_eq_false (by omega);have hl0:Eg (l.getD 0 0)=true:=by rw[hlow0,hb0,decide_eq_true (by omega)]
 clear hbad0 hgood0 hlow0 hb0;replace hl0:=Az hl0;replace h1:=Az h1;replace h2:=Az h2;go_wp2_with fail
 go_loopw [3] (fun v3 wr=>∃ pos:Nat,v3=.int .i64 (pos:Int)∧pos≤l.length∧wr=w∧Ag (PY l pos)) (fun v3 _=>l.length-(intOf v3).toNat)
 case atStart=>exact⟨0,rfl,Nat.zero_le _,rfl,⟨fun j hj=>by omega,fun h=>by omega⟩⟩
 case round =>
  obtain⟨pos,rfl,hp,rfl,hok⟩:=hrel;clear hx0 r1 r2 i1 i2 c1 c2;by_cases hlt:pos<l.length
  ·have hx:=fun W=>OJ l pos hlt W
   have k0:(0:Int)≤(pos:Int):=by omega
   have k1:(pos:Int)<(l.length:Int):=by omega
   have kw:IntKind.i64.wrap ((pos:Int)+1)=(pos:Int)+1:=by rw[IntKind.wrap_i64];omega
   have hlow:Eg (l.getD pos 0)=decide (97≤(l.getD pos 0).toNat∧(l.getD pos 0).toNat≤122):=rfl;have hdig:Ku (l.getD pos 0)=decide (48≤(l.getD pos 0).toNat∧(l.getD pos 0).toNat≤57):=rfl;have hstep:=fun h=>KQ (l:=l) hok.out h (fun _=>hl0.out)
   have hbad:=fun h=>hr.out.symm.trans (Iz (l:=l) hlt h)
   rw[hlow,hdig]at hstep hbad;generalize (l.getD pos 0).toNat=b at hx hstep hbad;clear hlow hdig hok;by_cases c1:97≤b∧b≤122
   ·have r1:decide ((97:Int)≤(b:Int))=true:=decide_eq_true (by omega);have r2:decide ((b:Int)≤122)=true:=decide_eq_true (by omega);have hok':=Az (hstep (by rw[decide_eq_true c1];rfl));clear hstep hbad c1;go_wp2;go_roundw
    case rel=>exact⟨pos+1,by go_num,by omega,trivial,hok'⟩
    case measure=>simp[intOf];omega
   by_cases c2:48≤b∧b≤57
   ·have r1:decide ((97:Int)≤(b:Int))=false:=decide_eq_false (by omega);have r3:decide ((48:Int)≤(b:Int))=true:=decide_eq_true (by omega);have r4:decide ((b:Int)≤57)=true:=decide_eq_true (by omega);have hok':=Az (hstep (by rw[decide_eq_true c2];simp));clear hstep hbad c1 c2;go_wp2;go_roundw
    case rel=>exact⟨pos+1,by go_num,by omega,trivial,hok'⟩
    case measure=>simp[intOf];omega
   obtain rfl:r=false:=hbad (by rw[decide_eq_false c1,decide_eq_false c2];rfl);clear hstep hbad;by_cases d1:97≤b
   ·have r1:decide ((97:Int)≤(b:Int))=true:=decide_eq_true (by omega);have r2:decide ((b:Int)≤122)=false:=decide_eq_false (by omega);have r3:decide ((48:Int)≤(b:Int))=true:=decide_eq_true (by omega);have r4:decide ((b:Int)≤57)=false:=decide_eq_false (by omega);clear c1 c2 d1;go_wp2;go_ret;exact⟨rfl,Below.refl _ _⟩
   have r1:decide ((97:Int)≤(b:Int))=false:=decide_eq_false (by omega);by_cases d2:48≤b
   ·have r3:decide ((48:Int)≤(b:Int))=true:=decide_eq_true (by omega);have r4:decide ((b:Int)≤57)=false:=decide_eq_false (by omega);clear c1 c2 d1 d2;go_wp2;go_ret;exact⟨rfl,Below.refl _ _⟩
   have r3:decide ((48:Int)≤(b:Int))=false:=decide_eq_false (by omega);clear c1 c2 d1 d2;go_wp2;go_ret;exact⟨rfl,Below.refl _ _⟩
  ·obtain rfl:pos=l.length:=by omega
   have n1:¬(l.length:Int)<(l.length:Int):=by omega
   obtain⟨g1,g2⟩:=MX hok.out (by have:=h1.out;omega);obtain rfl:r=true:=by rw[←hr.out,BY,decide_eq_true ⟨by have:=h1.out;omega,by have:=h2.out;omega⟩,g1,g2];rfl
   go_wp2;go_ret;exact⟨rfl,Below.refl _ _⟩
def En(op:Int):Prop:=∀ (w w5:World) (g5 g7 n7 c7 g:Nat) (cur:Array Value) (k x0 x1 x2 x3 y0 y1:Int) (_:Ag (Dh w w5 g5 {In.zero with op:=op,k:=k} g cur)) (_:4≤n7) (_:g7≠g5)
 (_:w5.cell? ⟨g7,0,none⟩=some (.int .i64 x0)) (_:w5.cell? ⟨g7,1,none⟩=some (.int .i64 x1)) (_:w5.cell? ⟨g7,2,none⟩=some (.int .i64 x2)) (_:w5.cell? ⟨g7,3,none⟩=some (.int .i64 x3))
 (Q:Exit→Act→World→Prop)
 (t0 t1 t2 t3 t4 t6 t8 t9 t10 t11 t12 t15 t16 t17 t18 t19 t20 t21 t22 t23 t24 t25 t26 t27 t28 t29 t30 t31 t32 t33 t34 t35 t36 t37 t38 t39 t40 t41 t42 t43 t44 t45 t46 t47 t48 t49 t50 t51 t52 t53 t54 t55 t56 t57 t58 t59 t60 t61 t62 t63 t64 t65 t66 t67 t68 t69 t70 t71 t72 t73 t74 t75 t76 t77 t78 t79 t80 t81 t82 t83 t84 t85 t86 t87 t89 t90 t91 t92 t93 t94 t95 t96 t97 t98 t99 t100 t101 t102 t103 t104 t105 t106 t107 t108 t109 t110 t111 t112 t113 t114 t115 t116 t117 t118 t119 t120 t121 t122 t123 t124 t125 t126 t127 t128 t129 t130 t131 t132 t133 t134 t135 t136 t137 t138 t139 t140 t141 t142 t143 t144 t145 t146 t147 t148 t149 t150 t151 t152 t153 t154 t155 t156 t157 t158 t159 t160 t161 t162 t163 t164 t165 t166 t167 t168 t169 t170 t171 t172 t173 t174 t175 t176 t177 t178 t179 t180 t181 t182 t183 t184 t185 t186 t187 t188 t189 t190 t191 t192 t193 t194 t195 t196 t197 t198 t199 t200 t201 t202 t203 t204 t205 t206 t207 t208 t209 t210 t211 t212 t213 t214 t215:Value)
 (_:∀ (s89 s90 s91 s92 s93 s94 s95 s96 s97 s98 s99 s100 s101 s102 s103 s104 s105 s106 s107 s108 s109 s110 s111 s112 s113 s114 s115 s116 s117 s118 s119 s120 s121 s122 s123 s124 s125 s126 s127 s128 s129 s130 s131 s132 s133 s134 s135 s136 s137 s138 s139 s140 s141 s142 s143 s144 s145 s146 s147 s148 s149 s150 s151 s152 s153 s154 s155 s156 s157 s158 s159 s160 s161 s162 s163 s164 s165 s166 s167 s168 s169 s170 s171 s172 s173 s174 s175 s176 s177 s178 s179 s180 s181 s182 s183 s184 s185 s186 s187 s188 s189 s190 s191 s192 s193 s194 s195 s196 s197 s198 s199 s200 s201 s202 s203 s204:Value) (w':World),Ag (Dh w w' g5 (Cl op k x0 x1 x2 x3 y0 y1) g cur)→Q .normal ⟨#[t0,t1,t2,t3,t4,.pointer (some ⟨g5,0,none⟩),t6,.slice (some ⟨g7,0,none⟩) n7 c7,t8,t9,t10,t11,t12,.int .i64 y0,.int .i64 y1,t15,t16,t17,t18,t19,t20,t21,t22,t23,t24,t25,t26,t27,t28,t29,t30,t31,t32,t33,t34,t35,t36,t37,t38,t39,t40,t41,t42,t43,t44,t45,t46,t47,t48,t49,t50,t51,t52,t53,t54,t55,t56,t57,t58,t59,t60,t61,t62,t63,t64,t65,t66,t67,t68,t69,t70,t71,t72,t73,t74,t75,t76,t77,t78,t79,t80,t81,t82,t83,t84,t85,t86,t87,.int .i64 op,s89,s90,s91,s92,s93,s94,s95,s96,s97,s98,s99,s100,s101,s102,s103,s104,s105,s106,s107,s108,s109,s110,s111,s112,s113,s114,s115,s116,s117,s118,s119,s120,s121,s122,s123,s124,s125,s126,s127,s128,s129,s130,s131,s132,s133,s134,s135,s136,s137,s138,s139,s140,s141,s142,s143,s144,s145,s146,s147,s148,s149,s150,s151,s152,s153,s154,s155,s156,s157,s158,s159,s160,s161,s162,s163,s164,s165,s166,s167,s168,s169,s170,s171,s172,s173,s174,s175,s176,s177,s178,s179,s180,s181,s182,s183,s184,s185,s186,s187,s188,s189,s190,s191,s192,s193,s194,s195,s196,s197,s198,s199,s200,s201,s202,s203,s204,t205,t206,t207,t208,t209,t210,t211,t212,t213,t214,t215],[]⟩ w'),
 Code.wp Tryz.prog PX Q ⟨#[t0,t1,t2,t3,t4,.pointer (some ⟨g5,0,none⟩),t6,.slice (some ⟨g7,0,none⟩) n7 c7,t8,t9,t10,t11,t12,.int .i64 y0,.int .i64 y1,t15,t16,t17,t18,t19,t20,t21,t22,t23,t24,t25,t26,t27,t28,t29,t30,t31,t32,t33,t34,t35,t36,t37,t38,t39,t40,t41,t42,t43,t44,t45,t46,t47,t48,t49,t50,t51,t52,t53,t54,t55,t56,t57,t58,t59,t60,t61,t62,t63,t64,t65,t66,t67,t68,t69,t70,t71,t72,t73,t74,t75,t76,t77,t78,t79,t80,t81,t82,t83,t84,t85,t86,t87,.int .i64 op,t89,t90,t91,t92,t93,t94,t95,t96,t97,t98,t99,t100,t101,t102,t103,t104,t105,t106,t107,t108,t109,t110,t111,t112,t113,t114,t115,t116,t117,t118,t119,t120,t121,t122,t123,t124,t125,t126,t127,t128,t129,t130,t131,t132,t133,t134,t135,t136,t137,t138,t139,t140,t141,t142,t143,t144,t145,t146,t147,t148,t149,t150,t151,t152,t153,t154,t155,t156,t157,t158,t159,t160,t161,t162,t163,t164,t165,t166,t167,t168,t169,t170,t171,t172,t173,t174,t175,t176,t177,t178,t179,t180,t181,t182,t183,t184,t185,t186,t187,t188,t189,t190,t191,t192,t193,t194,t195,t196,t197,t198,t199,t200,t201,t202,t203,t204,t205,t206,t207,t208,t209,t210,t211,t212,t213,t214,t215],[]⟩ w5
theorem Ak{w W:World}{g5 g:Nat}{op k:Int}{cur:Array Value}(h:Dh w W g5 {In.zero with op:=op,k:=k} g cur)(j:Nat)(v:Value)(hv:(In.cs {In.zero with op:=op,k:=k})[j]?=some v):W.frozen? ⟨g5,j,none⟩=false∧W.cell? ⟨g5,j,none⟩=some v :=
 ⟨Bf h.i j,(Bc h.i j).trans hv⟩
abbrev S4(g7:Nat)(x0 x1 x2 x3:Int)(W:World):Prop:=W.cell? ⟨g7,0,none⟩=some (.int .i64 x0)∧W.cell? ⟨g7,1,none⟩=some (.int .i64 x1)∧W.cell? ⟨g7,2,none⟩=some (.int .i64 x2)∧W.cell? ⟨g7,3,none⟩=some (.int .i64 x3)
theorem VT:En 1:=by
 intro w w5 g5 g7 n7 c7 g cur k x0 x1 x2 x3 y0 y1 HI h4 hne r0' r1' r2' r3' Q
 intros
 rename_i hQ
 replace hQ:=Az hQ;obtain⟨f0,c0⟩:=Ak HI.out 0 _ rfl;obtain⟨f1,c1⟩:=Ak HI.out 1 _ rfl;obtain⟨f2,c2⟩:=Ak HI.out 2 _ rfl;obtain⟨f3,c3⟩:=Ak HI.out 3 _ rfl;obtain⟨f6,c6⟩:=Ak HI.out 6 _ rfl;have z5:g5<w5.heap.size:=Bl HI.out.i;have wr0:IntKind.u32.wrap y0=y0%4294967296:=IntKind.wrap_u32 _;have wr1:IntKind.u32.wrap y1=y1%4294967296:=IntKind.wrap_u32 _;obtain⟨q0,p0,q1,p1,q2,p2,q3,p3⟩:0<n7∧(0:Int)<(n7:Int)∧1<n7∧(1:Int)<(n7:Int)∧2<n7∧(2:Int)<(n7:Int)∧3<n7∧(3:Int)<(n7:Int):=by omega
 clear h4
 conv=>arg 2;whnf
 go_wp2_with fail
 have hS:S4 g7 x0 x1 x2 x3 w5.drew:=⟨r0',r1',r2',r3'⟩
 go_region_held3 (fun W=>S4 g7 x0 x1 x2 x3 W) (first |with_reducible exact hS |with_reducible exact Da hne _ _ (by assumption)) (first |fail)
 have H:=Az (((HI.out.BG 1 (by decide) (by decide) x0).BG 2 (by decide) (by decide) x1).BG 3 (by decide) (by decide) x2).drew;obtain⟨w6,hw6⟩:∃ w6,w6=(((w5.setCell ⟨g5,1,none⟩ (.int .i64 x0)).setCell ⟨g5,2,none⟩ (.int .i64 x1)).setCell ⟨g5,3,none⟩ (.int .i64 x2)).drew:=⟨_,rfl⟩
 rw[←hw6]at H ⊢;clear hw6 HI hS f0 c0 f1 c1 f2 c2 f3 c3 f6 c6 r0' r1' r2' r3' z5;have d0:w6.cell? ⟨g5,0,none⟩=some (.int .i64 1):=(Bc H.out.i 0).trans rfl;have d6:w6.cell? ⟨g5,6,none⟩=some (.int .u32 k):=(Bc H.out.i 6).trans rfl;have e6:=Bf H.out.i 6;have e7:g5<w6.heap.size:=Bl H.out.i;go_wp2;rw[U8]at hQ;apply hQ.out;exact⟨H.out.M3 (y0%4294967296)⟩
theorem VU:En 2:=by
 intro w w5 g5 g7 n7 c7 g cur k x0 x1 x2 x3 y0 y1 HI h4 hne r0' r1' r2' r3' Q
 intros
 rename_i hQ
 replace hQ:=Az hQ;obtain⟨f0,c0⟩:=Ak HI.out 0 _ rfl;obtain⟨f1,c1⟩:=Ak HI.out 1 _ rfl;obtain⟨f2,c2⟩:=Ak HI.out 2 _ rfl;obtain⟨f3,c3⟩:=Ak HI.out 3 _ rfl;have z5:g5<w5.heap.size:=Bl HI.out.i;have wr0:IntKind.u32.wrap y0=y0%4294967296:=IntKind.wrap_u32 _;have wr1:IntKind.u32.wrap y1=y1%4294967296:=IntKind.wrap_u32 _;obtain⟨q0,p0,q1,p1,q2,p2,q3,p3⟩:0<n7∧(0:Int)<(n7:Int)∧1<n7∧(1:Int)<(n7:Int)∧2<n7∧(2:Int)<(n7:Int)∧3<n7∧(3:Int)<(n7:Int):=by omega
 clear h4
 conv=>arg 2;whnf
 go_wp2_with fail
 have hS:S4 g7 x0 x1 x2 x3 w5.drew:=⟨r0',r1',r2',r3'⟩
 go_region_held3 (fun W=>S4 g7 x0 x1 x2 x3 W) (first |with_reducible exact hS |with_reducible exact Da hne _ _ (by assumption)) (first |fail)
 have H:=Az (((HI.out.BG 1 (by decide) (by decide) x0).BG 2 (by decide) (by decide) x1).BG 3 (by decide) (by decide) x2).drew;obtain⟨w6,hw6⟩:∃ w6,w6=(((w5.setCell ⟨g5,1,none⟩ (.int .i64 x0)).setCell ⟨g5,2,none⟩ (.int .i64 x1)).setCell ⟨g5,3,none⟩ (.int .i64 x2)).drew:=⟨_,rfl⟩
 rw[←hw6]at H ⊢;clear hw6 HI hS f0 c0 f1 c1 f2 c2 f3 c3 r0' r1' r2' r3' z5;have d0:w6.cell? ⟨g5,0,none⟩=some (.int .i64 2):=(Bc H.out.i 0).trans rfl;go_wp2;rw[U9]at hQ;apply hQ.out;exact⟨H.out⟩
theorem VV:En 3:=by
 intro w w5 g5 g7 n7 c7 g cur k x0 x1 x2 x3 y0 y1 HI h4 hne r0' r1' r2' r3' Q
 intros
 rename_i hQ
 replace hQ:=Az hQ;obtain⟨f0,c0⟩:=Ak HI.out 0 _ rfl;obtain⟨f1,c1⟩:=Ak HI.out 1 _ rfl;obtain⟨f2,c2⟩:=Ak HI.out 2 _ rfl;obtain⟨f3,c3⟩:=Ak HI.out 3 _ rfl;obtain⟨f6,c6⟩:=Ak HI.out 6 _ rfl;have z5:g5<w5.heap.size:=Bl HI.out.i;have wr0:IntKind.u32.wrap y0=y0%4294967296:=IntKind.wrap_u32 _;have wr1:IntKind.u32.wrap y1=y1%4294967296:=IntKind.wrap_u32 _;obtain⟨q0,p0,q1,p1,q2,p2,q3,p3⟩:0<n7∧(0:Int)<(n7:Int)∧1<n7∧(1:Int)<(n7:Int)∧2<n7∧(2:Int)<(n7:Int)∧3<n7∧(3:Int)<(n7:Int):=by omega
 clear h4
 conv=>arg 2;whnf
 go_wp2_with fail
 have hS:S4 g7 x0 x1 x2 x3 w5.drew:=⟨r0',r1',r2',r3'⟩
 go_region_held3 (fun W=>S4 g7 x0 x1 x2 x3 W) (first |with_reducible exact hS |with_reducible exact Da hne _ _ (by assumption)) (first |fail)
 have H:=Az (((HI.out.BG 1 (by decide) (by decide) x0).BG 2 (by decide) (by decide) x1).BG 3 (by decide) (by decide) x2).drew;obtain⟨w6,hw6⟩:∃ w6,w6=(((w5.setCell ⟨g5,1,none⟩ (.int .i64 x0)).setCell ⟨g5,2,none⟩ (.int .i64 x1)).setCell ⟨g5,3,none⟩ (.int .i64 x2)).drew:=⟨_,rfl⟩
 rw[←hw6]at H ⊢;clear hw6 HI hS f0 c0 f1 c1 f2 c2 f3 c3 f6 c6 r0' r1' r2' r3' z5;have d0:w6.cell? ⟨g5,0,none⟩=some (.int .i64 3):=(Bc H.out.i 0).trans rfl;have d6:w6.cell? ⟨g5,6,none⟩=some (.int .u32 k):=(Bc H.out.i 6).trans rfl;have e6:=Bf H.out.i 6;have e7:g5<w6.heap.size:=Bl H.out.i;go_wp2;rw[UA]at hQ;apply hQ.out;exact⟨H.out.M3 (y0%4294967296)⟩
theorem VW:En 4:=by
 intro w w5 g5 g7 n7 c7 g cur k x0 x1 x2 x3 y0 y1 HI h4 hne r0' r1' r2' r3' Q
 intros
 rename_i hQ
 replace hQ:=Az hQ;obtain⟨f0,c0⟩:=Ak HI.out 0 _ rfl;obtain⟨f1,c1⟩:=Ak HI.out 1 _ rfl;obtain⟨f2,c2⟩:=Ak HI.out 2 _ rfl;obtain⟨f3,c3⟩:=Ak HI.out 3 _ rfl;obtain⟨f6,c6⟩:=Ak HI.out 6 _ rfl;have z5:g5<w5.heap.size:=Bl HI.out.i;have wr0:IntKind.u32.wrap y0=y0%4294967296:=IntKind.wrap_u32 _;have wr1:IntKind.u32.wrap y1=y1%4294967296:=IntKind.wrap_u32 _;obtain⟨q0,p0,q1,p1,q2,p2,q3,p3⟩:0<n7∧(0:Int)<(n7:Int)∧1<n7∧(1:Int)<(n7:Int)∧2<n7∧(2:Int)<(n7:Int)∧3<n7∧(3:Int)<(n7:Int):=by omega
 clear h4
 conv=>arg 2;whnf
 go_wp2_with fail
 have hS:S4 g7 x0 x1 x2 x3 w5.drew:=⟨r0',r1',r2',r3'⟩
 go_region_held3 (fun W=>S4 g7 x0 x1 x2 x3 W) (first |with_reducible exact hS |with_reducible exact Da hne _ _ (by assumption)) (first |fail)
 have H:=Az (((HI.out.BG 1 (by decide) (by decide) x0).BG 2 (by decide) (by decide) x1).BG 3 (by decide) (by decide) x2).drew;obtain⟨w6,hw6⟩:∃ w6,w6=(((w5.setCell ⟨g5,1,none⟩ (.int .i64 x0)).setCell ⟨g5,2,none⟩ (.int .i64 x1)).setCell ⟨g5,3,none⟩ (.int .i64 x2)).drew:=⟨_,rfl⟩
 rw[←hw6]at H ⊢;clear hw6 HI hS f0 c0 f1 c1 f2 c2 f3 c3 f6 c6 r0' r1' r2' r3' z5;have d0:w6.cell? ⟨g5,0,none⟩=some (.int .i64 4):=(Bc H.out.i 0).trans rfl;have d6:w6.cell? ⟨g5,6,none⟩=some (.int .u32 k):=(Bc H.out.i 6).trans rfl;have e6:=Bf H.out.i 6;have e7:g5<w6.heap.size:=Bl H.out.i;go_wp2;rw[UB]at hQ;apply hQ.out;exact⟨H.out.M3 (y0%4294967296)⟩
theorem VX:En 5:=by
 intro w w5 g5 g7 n7 c7 g cur k x0 x1 x2 x3 y0 y1 HI h4 hne r0' r1' r2' r3' Q
 intros
 rename_i hQ
 replace hQ:=Az hQ;obtain⟨f0,c0⟩:=Ak HI.out 0 _ rfl;obtain⟨f1,c1⟩:=Ak HI.out 1 _ rfl;obtain⟨f2,c2⟩:=Ak HI.out 2 _ rfl;obtain⟨f3,c3⟩:=Ak HI.out 3 _ rfl;obtain⟨f6,c6⟩:=Ak HI.out 6 _ rfl;have z5:g5<w5.heap.size:=Bl HI.out.i;have wr0:IntKind.u32.wrap y0=y0%4294967296:=IntKind.wrap_u32 _;have wr1:IntKind.u32.wrap y1=y1%4294967296:=IntKind.wrap_u32 _;obtain⟨q0,p0,q1,p1,q2,p2,q3,p3⟩:0<n7∧(0:Int)<(n7:Int)∧1<n7∧(1:Int)<(n7:Int)∧2<n7∧(2:Int)<(n7:Int)∧3<n7∧(3:Int)<(n7:Int):=by omega
 clear h4
 conv=>arg 2;whnf
 go_wp2_with fail
 have hS:S4 g7 x0 x1 x2 x3 w5.drew:=⟨r0',r1',r2',r3'⟩
 go_region_held3 (fun W=>S4 g7 x0 x1 x2 x3 W) (first |with_reducible exact hS |with_reducible exact Da hne _ _ (by assumption)) (first |fail)
 have H:=Az (((HI.out.BG 1 (by decide) (by decide) x0).BG 2 (by decide) (by decide) x1).BG 3 (by decide) (by decide) x2).drew;obtain⟨w6,hw6⟩:∃ w6,w6=(((w5.setCell ⟨g5,1,none⟩ (.int .i64 x0)).setCell ⟨g5,2,none⟩ (.int .i64 x1)).setCell ⟨g5,3,none⟩ (.int .i64 x2)).drew:=⟨_,rfl⟩
 rw[←hw6]at H ⊢;clear hw6 HI hS f0 c0 f1 c1 f2 c2 f3 c3 f6 c6 r0' r1' r2' r3' z5;have d0:w6.cell? ⟨g5,0,none⟩=some (.int .i64 5):=(Bc H.out.i 0).trans rfl;have d6:w6.cell? ⟨g5,6,none⟩=some (.int .u32 k):=(Bc H.out.i 6).trans rfl;have e6:=Bf H.out.i 6;have e7:g5<w6.heap.size:=Bl H.out.i;go_wp2;rw[UC]at hQ;apply hQ.out;exact⟨H.out.M3 (y0%4294967296)⟩
theorem VY:En 6:=by
 intro w w5 g5 g7 n7 c7 g cur k x0 x1 x2 x3 y0 y1 HI h4 hne r0' r1' r2' r3' Q
 intros
 rename_i hQ
 replace hQ:=Az hQ;obtain⟨f0,c0⟩:=Ak HI.out 0 _ rfl;obtain⟨f1,c1⟩:=Ak HI.out 1 _ rfl;obtain⟨f2,c2⟩:=Ak HI.out 2 _ rfl;obtain⟨f3,c3⟩:=Ak HI.out 3 _ rfl;obtain⟨f6,c6⟩:=Ak HI.out 6 _ rfl;have z5:g5<w5.heap.size:=Bl HI.out.i;have wr0:IntKind.u32.wrap y0=y0%4294967296:=IntKind.wrap_u32 _;have wr1:IntKind.u32.wrap y1=y1%4294967296:=IntKind.wrap_u32 _;obtain⟨q0,p0,q1,p1,q2,p2,q3,p3⟩:0<n7∧(0:Int)<(n7:Int)∧1<n7∧(1:Int)<(n7:Int)∧2<n7∧(2:Int)<(n7:Int)∧3<n7∧(3:Int)<(n7:Int):=by omega
 clear h4
 conv=>arg 2;whnf
 go_wp2_with fail
 have hS:S4 g7 x0 x1 x2 x3 w5.drew:=⟨r0',r1',r2',r3'⟩
 go_region_held3 (fun W=>S4 g7 x0 x1 x2 x3 W) (first |with_reducible exact hS |with_reducible exact Da hne _ _ (by assumption)) (first |fail)
 have H:=Az (((HI.out.BG 1 (by decide) (by decide) x0).BG 2 (by decide) (by decide) x1).BG 3 (by decide) (by decide) x2).drew;obtain⟨w6,hw6⟩:∃ w6,w6=(((w5.setCell ⟨g5,1,none⟩ (.int .i64 x0)).setCell ⟨g5,2,none⟩ (.int .i64 x1)).setCell ⟨g5,3,none⟩ (.int .i64 x2)).drew:=⟨_,rfl⟩
 rw[←hw6]at H ⊢;clear hw6 HI hS f0 c0 f1 c1 f2 c2 f3 c3 f6 c6 r0' r1' r2' r3' z5;have d0:w6.cell? ⟨g5,0,none⟩=some (.int .i64 6):=(Bc H.out.i 0).trans rfl;have d6:w6.cell? ⟨g5,6,none⟩=some (.int .u32 k):=(Bc H.out.i 6).trans rfl;have e6:=Bf H.out.i 6;have e7:g5<w6.heap.size:=Bl H.out.i;go_wp2;rw[UD]at hQ;apply hQ.out;exact⟨H.out.M3 (y0%4294967296)⟩
theorem VZ:En 7:=by
 intro w w5 g5 g7 n7 c7 g cur k x0 x1 x2 x3 y0 y1 HI h4 hne r0' r1' r2' r3' Q
 intros
 rename_i hQ
 replace hQ:=Az hQ;obtain⟨f0,c0⟩:=Ak HI.out 0 _ rfl;obtain⟨f1,c1⟩:=Ak HI.out 1 _ rfl;obtain⟨f2,c2⟩:=Ak HI.out 2 _ rfl;obtain⟨f3,c3⟩:=Ak HI.out 3 _ rfl;have z5:g5<w5.heap.size:=Bl HI.out.i;have wr0:IntKind.u32.wrap y0=y0%4294967296:=IntKind.wrap_u32 _;have wr1:IntKind.u32.wrap y1=y1%4294967296:=IntKind.wrap_u32 _;obtain⟨q0,p0,q1,p1,q2,p2,q3,p3⟩:0<n7∧(0:Int)<(n7:Int)∧1<n7∧(1:Int)<(n7:Int)∧2<n7∧(2:Int)<(n7:Int)∧3<n7∧(3:Int)<(n7:Int):=by omega
 clear h4
 conv=>arg 2;whnf
 go_wp2_with fail
 have hS:S4 g7 x0 x1 x2 x3 w5.drew:=⟨r0',r1',r2',r3'⟩
 go_region_held3 (fun W=>S4 g7 x0 x1 x2 x3 W) (first |with_reducible exact hS |with_reducible exact Da hne _ _ (by assumption)) (first |fail)
 have H:=Az (((HI.out.BG 1 (by decide) (by decide) x0).BG 2 (by decide) (by decide) x1).BG 3 (by decide) (by decide) x2).drew;obtain⟨w6,hw6⟩:∃ w6,w6=(((w5.setCell ⟨g5,1,none⟩ (.int .i64 x0)).setCell ⟨g5,2,none⟩ (.int .i64 x1)).setCell ⟨g5,3,none⟩ (.int .i64 x2)).drew:=⟨_,rfl⟩
 rw[←hw6]at H ⊢;clear hw6 HI hS f0 c0 f1 c1 f2 c2 f3 c3 r0' r1' r2' r3' z5;have d0:w6.cell? ⟨g5,0,none⟩=some (.int .i64 7):=(Bc H.out.i 0).trans rfl;go_wp2;rw[UE]at hQ;apply hQ.out;exact⟨H.out⟩
theorem UT:En 11:=by
 intro w w5 g5 g7 n7 c7 g cur k x0 x1 x2 x3 y0 y1 HI h4 hne r0' r1' r2' r3' Q
 intros
 rename_i hQ
 replace hQ:=Az hQ;obtain⟨f0,c0⟩:=Ak HI.out 0 _ rfl;obtain⟨f1,c1⟩:=Ak HI.out 1 _ rfl;obtain⟨f2,c2⟩:=Ak HI.out 2 _ rfl;obtain⟨f3,c3⟩:=Ak HI.out 3 _ rfl;have z5:g5<w5.heap.size:=Bl HI.out.i;have wr0:IntKind.u32.wrap y0=y0%4294967296:=IntKind.wrap_u32 _;have wr1:IntKind.u32.wrap y1=y1%4294967296:=IntKind.wrap_u32 _;obtain⟨q0,p0,q1,p1,q2,p2,q3,p3⟩:0<n7∧(0:Int)<(n7:Int)∧1<n7∧(1:Int)<(n7:Int)∧2<n7∧(2:Int)<(n7:Int)∧3<n7∧(3:Int)<(n7:Int):=by omega
 clear h4
 conv=>arg 2;whnf
 go_wp2_with fail
 have hS:S4 g7 x0 x1 x2 x3 w5.drew:=⟨r0',r1',r2',r3'⟩
 go_region_held3 (fun W=>S4 g7 x0 x1 x2 x3 W) (first |with_reducible exact hS |with_reducible exact Da hne _ _ (by assumption)) (first |fail)
 have H:=Az (((HI.out.BG 1 (by decide) (by decide) x0).BG 2 (by decide) (by decide) x1).BG 3 (by decide) (by decide) x2).drew;obtain⟨w6,hw6⟩:∃ w6,w6=(((w5.setCell ⟨g5,1,none⟩ (.int .i64 x0)).setCell ⟨g5,2,none⟩ (.int .i64 x1)).setCell ⟨g5,3,none⟩ (.int .i64 x2)).drew:=⟨_,rfl⟩
 rw[←hw6]at H ⊢;clear hw6 HI hS f0 c0 f1 c1 f2 c2 f3 c3 r0' r1' r2' r3' z5;have d0:w6.cell? ⟨g5,0,none⟩=some (.int .i64 11):=(Bc H.out.i 0).trans rfl;go_wp2;rw[TH]at hQ;apply hQ.out;exact⟨H.out⟩
theorem Vd:En 22:=by
 intro w w5 g5 g7 n7 c7 g cur k x0 x1 x2 x3 y0 y1 HI h4 hne r0' r1' r2' r3' Q
 intros
 rename_i hQ
 replace hQ:=Az hQ;obtain⟨f0,c0⟩:=Ak HI.out 0 _ rfl;obtain⟨f1,c1⟩:=Ak HI.out 1 _ rfl;obtain⟨f2,c2⟩:=Ak HI.out 2 _ rfl;obtain⟨f3,c3⟩:=Ak HI.out 3 _ rfl;have z5:g5<w5.heap.size:=Bl HI.out.i;have wr0:IntKind.u32.wrap y0=y0%4294967296:=IntKind.wrap_u32 _;have wr1:IntKind.u32.wrap y1=y1%4294967296:=IntKind.wrap_u32 _;obtain⟨q0,p0,q1,p1,q2,p2,q3,p3⟩:0<n7∧(0:Int)<(n7:Int)∧1<n7∧(1:Int)<(n7:Int)∧2<n7∧(2:Int)<(n7:Int)∧3<n7∧(3:Int)<(n7:Int):=by omega
 clear h4
 conv=>arg 2;whnf
 go_wp2_with fail
 have hS:S4 g7 x0 x1 x2 x3 w5.drew:=⟨r0',r1',r2',r3'⟩
 go_region_held3 (fun W=>S4 g7 x0 x1 x2 x3 W) (first |with_reducible exact hS |with_reducible exact Da hne _ _ (by assumption)) (first |fail)
 have H:=Az (((HI.out.BG 1 (by decide) (by decide) x0).BG 2 (by decide) (by decide) x1).BG 3 (by decide) (by decide) x2).drew;obtain⟨w6,hw6⟩:∃ w6,w6=(((w5.setCell ⟨g5,1,none⟩ (.int .i64 x0)).setCell ⟨g5,2,none⟩ (.int .i64 x1)).setCell ⟨g5,3,none⟩ (.int .i64 x2)).drew:=⟨_,rfl⟩
 rw[←hw6]at H ⊢;clear hw6 HI hS f0 c0 f1 c1 f2 c2 f3 c3 r0' r1' r2' r3' z5;have d0:w6.cell? ⟨g5,0,none⟩=some (.int .i64 22):=(Bc H.out.i 0).trans rfl;go_wp2;rw[TJ]at hQ;apply hQ.out;exact⟨H.out⟩
theorem Wa:En 8:=by
 intro w w5 g5 g7 n7 c7 g cur k x0 x1 x2 x3 y0 y1 HI h4 hne r0' r1' r2' r3' Q
 intros
 rename_i hQ
 replace hQ:=Az hQ;obtain⟨f0,c0⟩:=Ak HI.out 0 _ rfl;obtain⟨f2,c2⟩:=Ak HI.out 2 _ rfl;obtain⟨f3,c3⟩:=Ak HI.out 3 _ rfl;obtain⟨f7,c7⟩:=Ak HI.out 7 _ rfl;have z5:g5<w5.heap.size:=Bl HI.out.i;have wr0:IntKind.u32.wrap y0=y0%4294967296:=IntKind.wrap_u32 _;have wr1:IntKind.u32.wrap y1=y1%4294967296:=IntKind.wrap_u32 _;obtain⟨q0,p0,q1,p1,q2,p2,q3,p3⟩:0<n7∧(0:Int)<(n7:Int)∧1<n7∧(1:Int)<(n7:Int)∧2<n7∧(2:Int)<(n7:Int)∧3<n7∧(3:Int)<(n7:Int):=by omega
 clear h4
 conv=>arg 2;whnf
 go_wp2_with fail
 have hS:S4 g7 x0 x1 x2 x3 w5.drew:=⟨r0',r1',r2',r3'⟩
 go_region_held3 (fun W=>S4 g7 x0 x1 x2 x3 W) (first |with_reducible exact hS |with_reducible exact Da hne _ _ (by assumption)) (first |fail)
 have H:=Az (((HI.out.BG 2 (by decide) (by decide) x0).BG 3 (by decide) (by decide) x1).Pb y0).drew;obtain⟨w6,hw6⟩:∃ w6,w6=(((w5.setCell ⟨g5,2,none⟩ (.int .i64 x0)).setCell ⟨g5,3,none⟩ (.int .i64 x1)).setCell ⟨g5,7,none⟩ (.int .i64 y0)).drew:=⟨_,rfl⟩
 rw[←hw6]at H ⊢;clear hw6 HI hS f0 c0 f2 c2 f3 c3 f7 c7 r0' r1' r2' r3' z5;go_wp2;rw[UK]at hQ;apply hQ.out;exact⟨H.out⟩
theorem Wc:En 9:=by
 intro w w5 g5 g7 n7 c7 g cur k x0 x1 x2 x3 y0 y1 HI h4 hne r0' r1' r2' r3' Q
 intros
 rename_i hQ
 replace hQ:=Az hQ;obtain⟨f0,c0⟩:=Ak HI.out 0 _ rfl;obtain⟨f2,c2⟩:=Ak HI.out 2 _ rfl;obtain⟨f3,c3⟩:=Ak HI.out 3 _ rfl;obtain⟨f7,c7⟩:=Ak HI.out 7 _ rfl;have z5:g5<w5.heap.size:=Bl HI.out.i;have wr0:IntKind.u32.wrap y0=y0%4294967296:=IntKind.wrap_u32 _;have wr1:IntKind.u32.wrap y1=y1%4294967296:=IntKind.wrap_u32 _;obtain⟨q0,p0,q1,p1,q2,p2,q3,p3⟩:0<n7∧(0:Int)<(n7:Int)∧1<n7∧(1:Int)<(n7:Int)∧2<n7∧(2:Int)<(n7:Int)∧3<n7∧(3:Int)<(n7:Int):=by omega
 clear h4
 conv=>arg 2;whnf
 go_wp2_with fail
 have hS:S4 g7 x0 x1 x2 x3 w5.drew:=⟨r0',r1',r2',r3'⟩
 go_region_held3 (fun W=>S4 g7 x0 x1 x2 x3 W) (first |with_reducible exact hS |with_reducible exact Da hne _ _ (by assumption)) (first |fail)
 have H:=Az (((HI.out.BG 2 (by decide) (by decide) x0).BG 3 (by decide) (by decide) x1).Pb y0).drew;obtain⟨w6,hw6⟩:∃ w6,w6=(((w5.setCell ⟨g5,2,none⟩ (.int .i64 x0)).setCell ⟨g5,3,none⟩ (.int .i64 x1)).setCell ⟨g5,7,none⟩ (.int .i64 y0)).drew:=⟨_,rfl⟩
 rw[←hw6]at H ⊢;clear hw6 HI hS f0 c0 f2 c2 f3 c3 f7 c7 r0' r1' r2' r3' z5;go_wp2;rw[UL]at hQ;apply hQ.out;exact⟨H.out⟩
theorem US:En 10:=by
 intro w w5 g5 g7 n7 c7 g cur k x0 x1 x2 x3 y0 y1 HI h4 hne r0' r1' r2' r3' Q
 intros
 rename_i hQ
 replace hQ:=Az hQ;obtain⟨f0,c0⟩:=Ak HI.out 0 _ rfl;obtain⟨f2,c2⟩:=Ak HI.out 2 _ rfl;obtain⟨f3,c3⟩:=Ak HI.out 3 _ rfl;obtain⟨f7,c7⟩:=Ak HI.out 7 _ rfl;have z5:g5<w5.heap.size:=Bl HI.out.i;have wr0:IntKind.u32.wrap y0=y0%4294967296:=IntKind.wrap_u32 _;have wr1:IntKind.u32.wrap y1=y1%4294967296:=IntKind.wrap_u32 _;obtain⟨q0,p0,q1,p1,q2,p2,q3,p3⟩:0<n7∧(0:Int)<(n7:Int)∧1<n7∧(1:Int)<(n7:Int)∧2<n7∧(2:Int)<(n7:Int)∧3<n7∧(3:Int)<(n7:Int):=by omega
 clear h4
 conv=>arg 2;whnf
 go_wp2_with fail
 have hS:S4 g7 x0 x1 x2 x3 w5.drew:=⟨r0',r1',r2',r3'⟩
 go_region_held3 (fun W=>S4 g7 x0 x1 x2 x3 W) (first |with_reducible exact hS |with_reducible exact Da hne _ _ (by assumption)) (first |fail)
 have H:=Az (((HI.out.BG 2 (by decide) (by decide) x0).BG 3 (by decide) (by decide) x1).Pb y0).drew;obtain⟨w6,hw6⟩:∃ w6,w6=(((w5.setCell ⟨g5,2,none⟩ (.int .i64 x0)).setCell ⟨g5,3,none⟩ (.int .i64 x1)).setCell ⟨g5,7,none⟩ (.int .i64 y0)).drew:=⟨_,rfl⟩
 rw[←hw6]at H ⊢;clear hw6 HI hS f0 c0 f2 c2 f3 c3 f7 c7 r0' r1' r2' r3' z5;go_wp2;rw[TG]at hQ;apply hQ.out;exact⟨H.out⟩
theorem UX:En 16:=by
 intro w w5 g5 g7 n7 c7 g cur k x0 x1 x2 x3 y0 y1 HI h4 hne r0' r1' r2' r3' Q
 intros
 rename_i hQ
 replace hQ:=Az hQ;obtain⟨f0,c0⟩:=Ak HI.out 0 _ rfl;obtain⟨f1,c1⟩:=Ak HI.out 1 _ rfl;obtain⟨f2,c2⟩:=Ak HI.out 2 _ rfl;obtain⟨f3,c3⟩:=Ak HI.out 3 _ rfl;obtain⟨f4,c4⟩:=Ak HI.out 4 _ rfl;obtain⟨f5,c5⟩:=Ak HI.out 5 _ rfl;have z5:g5<w5.heap.size:=Bl HI.out.i;have wr0:IntKind.u32.wrap y0=y0%4294967296:=IntKind.wrap_u32 _;have wr1:IntKind.u32.wrap y1=y1%4294967296:=IntKind.wrap_u32 _;obtain⟨q0,p0,q1,p1,q2,p2,q3,p3⟩:0<n7∧(0:Int)<(n7:Int)∧1<n7∧(1:Int)<(n7:Int)∧2<n7∧(2:Int)<(n7:Int)∧3<n7∧(3:Int)<(n7:Int):=by omega
 clear h4
 conv=>arg 2;whnf
 go_wp2_with fail
 have hS:S4 g7 x0 x1 x2 x3 w5.drew:=⟨r0',r1',r2',r3'⟩
 go_region_held3 (fun W=>S4 g7 x0 x1 x2 x3 W) (first |with_reducible exact hS |with_reducible exact Da hne _ _ (by assumption)) (first |fail)
 have H:=Az (((((HI.out.BG 1 (by decide) (by decide) x0).BG 2 (by decide) (by decide) x1).BG 3 (by decide) (by decide) x2).BG 4 (by decide) (by decide) x3).BG 5 (by decide) (by decide) y0).drew;obtain⟨w6,hw6⟩:∃ w6,w6=(((((w5.setCell ⟨g5,1,none⟩ (.int .i64 x0)).setCell ⟨g5,2,none⟩ (.int .i64 x1)).setCell ⟨g5,3,none⟩ (.int .i64 x2)).setCell ⟨g5,4,none⟩ (.int .i64 x3)).setCell ⟨g5,5,none⟩ (.int .i64 y0)).drew:=⟨_,rfl⟩
 rw[←hw6]at H ⊢;clear hw6 HI hS f0 c0 f1 c1 f2 c2 f3 c3 f4 c4 f5 c5 r0' r1' r2' r3' z5;have d0:w6.cell? ⟨g5,0,none⟩=some (.int .i64 16):=(Bc H.out.i 0).trans rfl;go_wp2;rw[TI]at hQ;apply hQ.out;exact⟨H.out⟩
theorem UZ:En 18:=by
 intro w w5 g5 g7 n7 c7 g cur k x0 x1 x2 x3 y0 y1 HI h4 hne r0' r1' r2' r3' Q
 intros
 rename_i hQ
 replace hQ:=Az hQ;obtain⟨f0,c0⟩:=Ak HI.out 0 _ rfl;obtain⟨f1,c1⟩:=Ak HI.out 1 _ rfl;obtain⟨f2,c2⟩:=Ak HI.out 2 _ rfl;obtain⟨f3,c3⟩:=Ak HI.out 3 _ rfl;obtain⟨f4,c4⟩:=Ak HI.out 4 _ rfl;obtain⟨f5,c5⟩:=Ak HI.out 5 _ rfl;have z5:g5<w5.heap.size:=Bl HI.out.i;have wr0:IntKind.u32.wrap y0=y0%4294967296:=IntKind.wrap_u32 _;have wr1:IntKind.u32.wrap y1=y1%4294967296:=IntKind.wrap_u32 _;obtain⟨q0,p0,q1,p1,q2,p2,q3,p3⟩:0<n7∧(0:Int)<(n7:Int)∧1<n7∧(1:Int)<(n7:Int)∧2<n7∧(2:Int)<(n7:Int)∧3<n7∧(3:Int)<(n7:Int):=by omega
 clear h4
 conv=>arg 2;whnf
 go_wp2_with fail
 have hS:S4 g7 x0 x1 x2 x3 w5.drew:=⟨r0',r1',r2',r3'⟩
 go_region_held3 (fun W=>S4 g7 x0 x1 x2 x3 W) (first |with_reducible exact hS |with_reducible exact Da hne _ _ (by assumption)) (first |fail)
 have H:=Az (((((HI.out.BG 1 (by decide) (by decide) x0).BG 2 (by decide) (by decide) x1).BG 3 (by decide) (by decide) x2).BG 4 (by decide) (by decide) x3).BG 5 (by decide) (by decide) y0).drew;obtain⟨w6,hw6⟩:∃ w6,w6=(((((w5.setCell ⟨g5,1,none⟩ (.int .i64 x0)).setCell ⟨g5,2,none⟩ (.int .i64 x1)).setCell ⟨g5,3,none⟩ (.int .i64 x2)).setCell ⟨g5,4,none⟩ (.int .i64 x3)).setCell ⟨g5,5,none⟩ (.int .i64 y0)).drew:=⟨_,rfl⟩
 rw[←hw6]at H ⊢;clear hw6 HI hS f0 c0 f1 c1 f2 c2 f3 c3 f4 c4 f5 c5 r0' r1' r2' r3' z5;have d0:w6.cell? ⟨g5,0,none⟩=some (.int .i64 18):=(Bc H.out.i 0).trans rfl;go_wp2;rw[S9]at hQ;apply hQ.out;exact⟨H.out⟩
theorem Va:En 19:=by
 intro w w5 g5 g7 n7 c7 g cur k x0 x1 x2 x3 y0 y1 HI h4 hne r0' r1' r2' r3' Q
 intros
 rename_i hQ
 replace hQ:=Az hQ;obtain⟨f0,c0⟩:=Ak HI.out 0 _ rfl;obtain⟨f1,c1⟩:=Ak HI.out 1 _ rfl;obtain⟨f2,c2⟩:=Ak HI.out 2 _ rfl;obtain⟨f3,c3⟩:=Ak HI.out 3 _ rfl;obtain⟨f4,c4⟩:=Ak HI.out 4 _ rfl;obtain⟨f5,c5⟩:=Ak HI.out 5 _ rfl;have z5:g5<w5.heap.size:=Bl HI.out.i;have wr0:IntKind.u32.wrap y0=y0%4294967296:=IntKind.wrap_u32 _;have wr1:IntKind.u32.wrap y1=y1%4294967296:=IntKind.wrap_u32 _;obtain⟨q0,p0,q1,p1,q2,p2,q3,p3⟩:0<n7∧(0:Int)<(n7:Int)∧1<n7∧(1:Int)<(n7:Int)∧2<n7∧(2:Int)<(n7:Int)∧3<n7∧(3:Int)<(n7:Int):=by omega
 clear h4
 conv=>arg 2;whnf
 go_wp2_with fail
 have hS:S4 g7 x0 x1 x2 x3 w5.drew:=⟨r0',r1',r2',r3'⟩
 go_region_held3 (fun W=>S4 g7 x0 x1 x2 x3 W) (first |with_reducible exact hS |with_reducible exact Da hne _ _ (by assumption)) (first |fail)
 have H:=Az (((((HI.out.BG 1 (by decide) (by decide) x0).BG 2 (by decide) (by decide) x1).BG 3 (by decide) (by decide) x2).BG 4 (by decide) (by decide) x3).BG 5 (by decide) (by decide) y0).drew;obtain⟨w6,hw6⟩:∃ w6,w6=(((((w5.setCell ⟨g5,1,none⟩ (.int .i64 x0)).setCell ⟨g5,2,none⟩ (.int .i64 x1)).setCell ⟨g5,3,none⟩ (.int .i64 x2)).setCell ⟨g5,4,none⟩ (.int .i64 x3)).setCell ⟨g5,5,none⟩ (.int .i64 y0)).drew:=⟨_,rfl⟩
 rw[←hw6]at H ⊢;clear hw6 HI hS f0 c0 f1 c1 f2 c2 f3 c3 f4 c4 f5 c5 r0' r1' r2' r3' z5;have d0:w6.cell? ⟨g5,0,none⟩=some (.int .i64 19):=(Bc H.out.i 0).trans rfl;go_wp2;rw[SA]at hQ;apply hQ.out;exact⟨H.out⟩
theorem Vb:En 20:=by
 intro w w5 g5 g7 n7 c7 g cur k x0 x1 x2 x3 y0 y1 HI h4 hne r0' r1' r2' r3' Q
 intros
 rename_i hQ
 replace hQ:=Az hQ;obtain⟨f0,c0⟩:=Ak HI.out 0 _ rfl;obtain⟨f1,c1⟩:=Ak HI.out 1 _ rfl;obtain⟨f2,c2⟩:=Ak HI.out 2 _ rfl;obtain⟨f3,c3⟩:=Ak HI.out 3 _ rfl;obtain⟨f4,c4⟩:=Ak HI.out 4 _ rfl;obtain⟨f5,c5⟩:=Ak HI.out 5 _ rfl;obtain⟨f6,c6⟩:=Ak HI.out 6 _ rfl;have z5:g5<w5.heap.size:=Bl HI.out.i;have wr0:IntKind.u32.wrap y0=y0%4294967296:=IntKind.wrap_u32 _;have wr1:IntKind.u32.wrap y1=y1%4294967296:=IntKind.wrap_u32 _;obtain⟨q0,p0,q1,p1,q2,p2,q3,p3⟩:0<n7∧(0:Int)<(n7:Int)∧1<n7∧(1:Int)<(n7:Int)∧2<n7∧(2:Int)<(n7:Int)∧3<n7∧(3:Int)<(n7:Int):=by omega
 clear h4
 conv=>arg 2;whnf
 go_wp2_with fail
 have hS:S4 g7 x0 x1 x2 x3 w5.drew:=⟨r0',r1',r2',r3'⟩
 go_region_held3 (fun W=>S4 g7 x0 x1 x2 x3 W) (first |with_reducible exact hS |with_reducible exact Da hne _ _ (by assumption)) (first |fail)
 have H:=Az (((((HI.out.BG 1 (by decide) (by decide) x0).BG 2 (by decide) (by decide) x1).BG 3 (by decide) (by decide) x2).BG 4 (by decide) (by decide) x3).BG 5 (by decide) (by decide) y0).drew;obtain⟨w6,hw6⟩:∃ w6,w6=(((((w5.setCell ⟨g5,1,none⟩ (.int .i64 x0)).setCell ⟨g5,2,none⟩ (.int .i64 x1)).setCell ⟨g5,3,none⟩ (.int .i64 x2)).setCell ⟨g5,4,none⟩ (.int .i64 x3)).setCell ⟨g5,5,none⟩ (.int .i64 y0)).drew:=⟨_,rfl⟩
 rw[←hw6]at H ⊢;clear hw6 HI hS f0 c0 f1 c1 f2 c2 f3 c3 f4 c4 f5 c5 f6 c6 r0' r1' r2' r3' z5;have d0:w6.cell? ⟨g5,0,none⟩=some (.int .i64 20):=(Bc H.out.i 0).trans rfl;have d6:w6.cell? ⟨g5,6,none⟩=some (.int .u32 k):=(Bc H.out.i 6).trans rfl;have e6:=Bf H.out.i 6;have e7:g5<w6.heap.size:=Bl H.out.i;go_wp2;rw[SB]at hQ;apply hQ.out;exact⟨H.out.M3 (y1%4294967296)⟩
theorem Vc:En 21:=by
 intro w w5 g5 g7 n7 c7 g cur k x0 x1 x2 x3 y0 y1 HI h4 hne r0' r1' r2' r3' Q
 intros
 rename_i hQ
 replace hQ:=Az hQ;obtain⟨f0,c0⟩:=Ak HI.out 0 _ rfl;obtain⟨f1,c1⟩:=Ak HI.out 1 _ rfl;obtain⟨f2,c2⟩:=Ak HI.out 2 _ rfl;obtain⟨f3,c3⟩:=Ak HI.out 3 _ rfl;obtain⟨f4,c4⟩:=Ak HI.out 4 _ rfl;obtain⟨f5,c5⟩:=Ak HI.out 5 _ rfl;obtain⟨f7,c7⟩:=Ak HI.out 7 _ rfl;have z5:g5<w5.heap.size:=Bl HI.out.i;have wr0:IntKind.u32.wrap y0=y0%4294967296:=IntKind.wrap_u32 _;have wr1:IntKind.u32.wrap y1=y1%4294967296:=IntKind.wrap_u32 _;obtain⟨q0,p0,q1,p1,q2,p2,q3,p3⟩:0<n7∧(0:Int)<(n7:Int)∧1<n7∧(1:Int)<(n7:Int)∧2<n7∧(2:Int)<(n7:Int)∧3<n7∧(3:Int)<(n7:Int):=by omega
 clear h4
 conv=>arg 2;whnf
 go_wp2_with fail
 have hS:S4 g7 x0 x1 x2 x3 w5.drew:=⟨r0',r1',r2',r3'⟩
 go_region_held3 (fun W=>S4 g7 x0 x1 x2 x3 W) (first |with_reducible exact hS |with_reducible exact Da hne _ _ (by assumption)) (first |fail)
 have H:=Az (((((HI.out.BG 1 (by decide) (by decide) x0).BG 2 (by decide) (by decide) x1).BG 3 (by decide) (by decide) x2).BG 4 (by decide) (by decide) x3).BG 5 (by decide) (by decide) y0).drew;obtain⟨w6,hw6⟩:∃ w6,w6=(((((w5.setCell ⟨g5,1,none⟩ (.int .i64 x0)).setCell ⟨g5,2,none⟩ (.int .i64 x1)).setCell ⟨g5,3,none⟩ (.int .i64 x2)).setCell ⟨g5,4,none⟩ (.int .i64 x3)).setCell ⟨g5,5,none⟩ (.int .i64 y0)).drew:=⟨_,rfl⟩
 rw[←hw6]at H ⊢;clear hw6 HI hS f0 c0 f1 c1 f2 c2 f3 c3 f4 c4 f5 c5 f7 c7 r0' r1' r2' r3' z5;have d0:w6.cell? ⟨g5,0,none⟩=some (.int .i64 21):=(Bc H.out.i 0).trans rfl;have d6:w6.cell? ⟨g5,7,none⟩=some (.int .i64 0):=(Bc H.out.i 7).trans rfl;have e6:=Bf H.out.i 7;have e7:g5<w6.heap.size:=Bl H.out.i;go_wp2;rw[SC]at hQ;apply hQ.out;exact⟨H.out.Pb y1⟩
theorem UY:En 17:=by
 intro w w5 g5 g7 n7 c7 g cur k x0 x1 x2 x3 y0 y1 HI h4 hne r0' r1' r2' r3' Q
 intros
 rename_i hQ
 replace hQ:=Az hQ;obtain⟨f0,c0⟩:=Ak HI.out 0 _ rfl;obtain⟨f2,c2⟩:=Ak HI.out 2 _ rfl;obtain⟨f3,c3⟩:=Ak HI.out 3 _ rfl;obtain⟨f5,c5⟩:=Ak HI.out 5 _ rfl;have z5:g5<w5.heap.size:=Bl HI.out.i;have wr0:IntKind.u32.wrap y0=y0%4294967296:=IntKind.wrap_u32 _;have wr1:IntKind.u32.wrap y1=y1%4294967296:=IntKind.wrap_u32 _;obtain⟨q0,p0,q1,p1,q2,p2,q3,p3⟩:0<n7∧(0:Int)<(n7:Int)∧1<n7∧(1:Int)<(n7:Int)∧2<n7∧(2:Int)<(n7:Int)∧3<n7∧(3:Int)<(n7:Int):=by omega
 clear h4
 conv=>arg 2;whnf
 go_wp2_with fail
 have hS:S4 g7 x0 x1 x2 x3 w5.drew:=⟨r0',r1',r2',r3'⟩
 go_region_held3 (fun W=>S4 g7 x0 x1 x2 x3 W) (first |with_reducible exact hS |with_reducible exact Da hne _ _ (by assumption)) (first |fail)
 have H:=Az (((HI.out.BG 2 (by decide) (by decide) x0).BG 3 (by decide) (by decide) x1).BG 5 (by decide) (by decide) y0).drew;obtain⟨w6,hw6⟩:∃ w6,w6=(((w5.setCell ⟨g5,2,none⟩ (.int .i64 x0)).setCell ⟨g5,3,none⟩ (.int .i64 x1)).setCell ⟨g5,5,none⟩ (.int .i64 y0)).drew:=⟨_,rfl⟩
 rw[←hw6]at H ⊢;clear hw6 HI hS f0 c0 f2 c2 f3 c3 f5 c5 r0' r1' r2' r3' z5;go_wp2;rw[SD]at hQ;apply hQ.out;exact⟨H.out⟩
theorem Ve:En 23:=by
 intro w w5 g5 g7 n7 c7 g cur k x0 x1 x2 x3 y0 y1 HI h4 hne r0' r1' r2' r3' Q
 intros
 rename_i hQ
 replace hQ:=Az hQ;obtain⟨f0,c0⟩:=Ak HI.out 0 _ rfl;obtain⟨f2,c2⟩:=Ak HI.out 2 _ rfl;have z5:g5<w5.heap.size:=Bl HI.out.i;have wr0:IntKind.u32.wrap y0=y0%4294967296:=IntKind.wrap_u32 _;have wr1:IntKind.u32.wrap y1=y1%4294967296:=IntKind.wrap_u32 _;obtain⟨q0,p0,q1,p1,q2,p2,q3,p3⟩:0<n7∧(0:Int)<(n7:Int)∧1<n7∧(1:Int)<(n7:Int)∧2<n7∧(2:Int)<(n7:Int)∧3<n7∧(3:Int)<(n7:Int):=by omega
 clear h4
 conv=>arg 2;whnf
 go_wp2;rw[SE]at hQ;apply hQ.out;exact⟨HI.out.BG 2 (by decide) (by decide) x0⟩
theorem VR:En 0:=by
 intro w w5 g5 g7 n7 c7 g cur k x0 x1 x2 x3 y0 y1 HI h4 hne r0' r1' r2' r3' Q
 intros
 rename_i hQ
 replace hQ:=Az hQ;obtain⟨f0,c0⟩:=Ak HI.out 0 _ rfl;have z5:g5<w5.heap.size:=Bl HI.out.i;have wr0:IntKind.u32.wrap y0=y0%4294967296:=IntKind.wrap_u32 _;have wr1:IntKind.u32.wrap y1=y1%4294967296:=IntKind.wrap_u32 _;obtain⟨q0,p0,q1,p1,q2,p2,q3,p3⟩:0<n7∧(0:Int)<(n7:Int)∧1<n7∧(1:Int)<(n7:Int)∧2<n7∧(2:Int)<(n7:Int)∧3<n7∧(3:Int)<(n7:Int):=by omega
 clear h4
 conv=>arg 2;whnf
 go_wp2;rw[Us]at hQ;apply hQ.out;exact⟨HI.out⟩
theorem UU:En 12:=by
 intro w w5 g5 g7 n7 c7 g cur k x0 x1 x2 x3 y0 y1 HI h4 hne r0' r1' r2' r3' Q
 intros
 rename_i hQ
 replace hQ:=Az hQ;obtain⟨f0,c0⟩:=Ak HI.out 0 _ rfl;obtain⟨f6,c6⟩:=Ak HI.out 6 _ rfl;have z5:g5<w5.heap.size:=Bl HI.out.i;have wr0:IntKind.u32.wrap y0=y0%4294967296:=IntKind.wrap_u32 _;have wr1:IntKind.u32.wrap y1=y1%4294967296:=IntKind.wrap_u32 _;obtain⟨q0,p0,q1,p1,q2,p2,q3,p3⟩:0<n7∧(0:Int)<(n7:Int)∧1<n7∧(1:Int)<(n7:Int)∧2<n7∧(2:Int)<(n7:Int)∧3<n7∧(3:Int)<(n7:Int):=by omega
 clear h4
 conv=>arg 2;whnf
 go_wp2;rw[SF]at hQ;apply hQ.out;exact⟨HI.out.M3 (y0%4294967296)⟩
theorem UW:En 13:=by
 intro w w5 g5 g7 n7 c7 g cur k x0 x1 x2 x3 y0 y1 HI h4 hne r0' r1' r2' r3' Q
 intros
 rename_i hQ
 replace hQ:=Az hQ;obtain⟨f0,c0⟩:=Ak HI.out 0 _ rfl;obtain⟨f6,c6⟩:=Ak HI.out 6 _ rfl;have z5:g5<w5.heap.size:=Bl HI.out.i;have wr0:IntKind.u32.wrap y0=y0%4294967296:=IntKind.wrap_u32 _;have wr1:IntKind.u32.wrap y1=y1%4294967296:=IntKind.wrap_u32 _;obtain⟨q0,p0,q1,p1,q2,p2,q3,p3⟩:0<n7∧(0:Int)<(n7:Int)∧1<n7∧(1:Int)<(n7:Int)∧2<n7∧(2:Int)<(n7:Int)∧3<n7∧(3:Int)<(n7:Int):=by omega
 clear h4
 conv=>arg 2;whnf
 go_wp2;rw[SG]at hQ;apply hQ.out;exact⟨HI.out.M3 (y0%4294967296)⟩
theorem Ud(nm:Int)(hnm:nm=0∨(1≤nm∧nm≤13)∨(16≤nm∧nm≤23)):En nm:=by
 have hc:nm=0∨nm=1∨nm=2∨nm=3∨nm=4∨nm=5∨nm=6∨nm=7∨nm=8∨nm=9∨nm=10∨nm=11∨nm=12∨nm=13∨nm=16∨nm=17∨nm=18∨nm=19∨nm=20∨nm=21∨nm=22∨nm=23:=by omega
 clear hnm;rcases hc with rfl |rfl |rfl |rfl |rfl |rfl |rfl |rfl |rfl |rfl |rfl |rfl |rfl |rfl |rfl |rfl |rfl |rfl |rfl |rfl |rfl |rfl
 ·exact VR
 ·exact VT
 ·exact VU
 ·exact VV
 ·exact VW
 ·exact VX
 ·exact VY
 ·exact VZ
 ·exact Wa
 ·exact Wc
 ·exact US
 ·exact UT
 ·exact UU
 ·exact UW
 ·exact UX
 ·exact UY
 ·exact UZ
 ·exact Va
 ·exact Vb
 ·exact Vc
 ·exact Vd
 ·exact Ve
end
end Go.Proofs.YtjjpiefgdggghaaGreatDoor

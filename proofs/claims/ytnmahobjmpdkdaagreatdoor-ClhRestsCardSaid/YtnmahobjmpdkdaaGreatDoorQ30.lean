/- Parts: RefParseKit, RefSwitchKit, RefSwitchA, RefSwitchB, RefSwitchC, RefSwitch. -/
import Derived.Test.YtnmahobjmpdkdaaGreatDoorQ28
import Derived.Test.YtnmahobjmpdkdaaGreatDoorQ02
import Derived.Test.YtnmahobjmpdkdaaGreatDoorQ18
import Derived.Test.YtnmahobjmpdkdaaGreatDoorQ29
import Derived.Test.YtnmahobjmpdkdaaGreatDoorQ09
set_option linter.unusedVariables false
set_option linter.unusedSimpArgs false
set_option maxRecDepth 100000
set_option maxHeartbeats 40000000
namespace Go.Proofs.YtnmahobjmpdkdaaGreatDoor
section
open Go.RowKit Go.Proofs.YtnmahobjmpdkdaaGreatDoorW.PrintWords
def Kp(n:Nat):Code→Option Code
 |.seq a b=>match Kp n a with
  |some c=>some c
  |none=>Kp n b
 |.cond _ a b=>match Kp n a with
  |some c=>some c
  |none=>Kp n b
 |.block m c=>if m=n then some (.block m c) else Kp n c
 |.loop c=>Kp n c
 |_=>none
noncomputable def Rx:Code:=((Tryz.f73.body.bind (Kp 8)).getD .skip)
theorem WQ(k x0 x1 x2 x3 y0 y1:Int):C9 0 k x0 x1 x2 x3 y0 y1=⟨0,0,0,0,0,0,k,0⟩:=by simp[C9]
theorem WV(k x0 x1 x2 x3 y0 y1:Int):C9 1 k x0 x1 x2 x3 y0 y1=⟨1,x0,x1,x2,0,0,y0%4294967296,0⟩:=by simp[C9]
theorem WW(k x0 x1 x2 x3 y0 y1:Int):C9 2 k x0 x1 x2 x3 y0 y1=⟨2,x0,x1,x2,0,0,k,0⟩:=by simp[C9]
theorem WX(k x0 x1 x2 x3 y0 y1:Int):C9 3 k x0 x1 x2 x3 y0 y1=⟨3,x0,x1,x2,0,0,y0%4294967296,0⟩:=by simp[C9]
theorem WY(k x0 x1 x2 x3 y0 y1:Int):C9 4 k x0 x1 x2 x3 y0 y1=⟨4,x0,x1,x2,0,0,y0%4294967296,0⟩:=by simp[C9]
theorem WZ(k x0 x1 x2 x3 y0 y1:Int):C9 5 k x0 x1 x2 x3 y0 y1=⟨5,x0,x1,x2,0,0,y0%4294967296,0⟩:=by simp[C9]
theorem Xa(k x0 x1 x2 x3 y0 y1:Int):C9 6 k x0 x1 x2 x3 y0 y1=⟨6,x0,x1,x2,0,0,y0%4294967296,0⟩:=by simp[C9]
theorem Xb(k x0 x1 x2 x3 y0 y1:Int):C9 7 k x0 x1 x2 x3 y0 y1=⟨7,x0,x1,x2,0,0,k,0⟩:=by simp[C9]
theorem Xc(k x0 x1 x2 x3 y0 y1:Int):C9 8 k x0 x1 x2 x3 y0 y1=⟨8,0,x0,x1,0,0,k,y0⟩:=by simp[C9]
theorem Xd(k x0 x1 x2 x3 y0 y1:Int):C9 9 k x0 x1 x2 x3 y0 y1=⟨9,0,x0,x1,0,0,k,y0⟩:=by simp[C9]
theorem Vh(k x0 x1 x2 x3 y0 y1:Int):C9 10 k x0 x1 x2 x3 y0 y1=⟨10,0,x0,x1,0,0,k,y0⟩:=by simp[C9]
theorem Vi(k x0 x1 x2 x3 y0 y1:Int):C9 11 k x0 x1 x2 x3 y0 y1=⟨11,x0,x1,x2,0,0,k,0⟩:=by simp[C9]
theorem Vb(k x0 x1 x2 x3 y0 y1:Int):C9 12 k x0 x1 x2 x3 y0 y1=⟨12,0,0,0,0,0,y0%4294967296,0⟩:=by simp[C9]
theorem Vc(k x0 x1 x2 x3 y0 y1:Int):C9 13 k x0 x1 x2 x3 y0 y1=⟨13,0,0,0,0,0,y0%4294967296,0⟩:=by simp[C9]
theorem Vj(k x0 x1 x2 x3 y0 y1:Int):C9 16 k x0 x1 x2 x3 y0 y1=⟨16,x0,x1,x2,x3,y0,k,0⟩:=by simp[C9]
theorem UZ(k x0 x1 x2 x3 y0 y1:Int):C9 17 k x0 x1 x2 x3 y0 y1=⟨17,0,x0,x1,0,y0,k,0⟩:=by simp[C9]
theorem UU(k x0 x1 x2 x3 y0 y1:Int):C9 18 k x0 x1 x2 x3 y0 y1=⟨18,x0,x1,x2,x3,y0,k,0⟩:=by simp[C9]
theorem UW(k x0 x1 x2 x3 y0 y1:Int):C9 19 k x0 x1 x2 x3 y0 y1=⟨19,x0,x1,x2,x3,y0,k,0⟩:=by simp[C9]
theorem UX(k x0 x1 x2 x3 y0 y1:Int):C9 20 k x0 x1 x2 x3 y0 y1=⟨20,x0,x1,x2,x3,y0,y1%4294967296,0⟩:=by simp[C9]
theorem UY(k x0 x1 x2 x3 y0 y1:Int):C9 21 k x0 x1 x2 x3 y0 y1=⟨21,x0,x1,x2,x3,y0,k,y1⟩:=by simp[C9]
theorem Vk(k x0 x1 x2 x3 y0 y1:Int):C9 22 k x0 x1 x2 x3 y0 y1=⟨22,x0,x1,x2,0,0,k,0⟩:=by simp[C9]
theorem Va(k x0 x1 x2 x3 y0 y1:Int):C9 23 k x0 x1 x2 x3 y0 y1=⟨23,0,x0,0,0,0,k,0⟩:=by simp[C9]
structure D0 (w W:World) (g5:Nat) (i:In) (gw:Nat) (cw:Array Value):Prop where
 b:Below w.heap.size w W
 z:W.heap[w.heap.size]?=some (.cells In.zero.cs 90 (0,0))
 i:W.heap[g5]?=some (.cells i.cs 90 (0,0))
 n:w.heap.size<g5
 r:W.heap[gw]?=some (.cells cw 9 (0,0))
theorem D0.keep{w W W1:World}{g5 gw:Nat}{i:In}{cw:Array Value}(h:D0 w W g5 i gw cw)(hb:Below W.heap.size W W1):D0 w W1 g5 i gw cw :=
 ⟨h.b.trans (hb.mono h.b.size),Bk hb h.z,Bk hb h.i,h.n,Bk hb h.r⟩
theorem D0.drew{w W:World}{g5 gw:Nat}{i:In}{cw:Array Value}(h:D0 w W g5 i gw cw):D0 w W.drew g5 i gw cw:=⟨Bd h.b,Be h.z,Be h.i,h.n,Be h.r⟩
theorem D0.grown{w W W1:World}{g5 gw:Nat}{i:In}{cw:Array Value}{v:Value}{xs:List Int}(h:D0 w W g5 i gw cw)(hr:Bj W w.heap.size v xs)(hg:W.grownBy W1 v.ownBlock):D0 w W1 g5 i gw cw :=
 ⟨h.b.grown hg h.b.size (fun k hk=>Ob hr k hk),Bg h.z hg (Oa hr h.z (by decide)),Bg h.i hg (Oa hr h.i (by decide)),h.n,Bg h.r hg (Oa hr h.r (by decide))⟩
theorem D0.put{w W:World}{g5 gw:Nat}{i:In}{cw:Array Value}(h:D0 w W g5 i gw cw)(j:Nat)(u:Value)(i':In)(he:i'.cs=i.cs.setIfInBounds j u):D0 w (W.setCell ⟨g5,j,none⟩ u) g5 i' gw cw :=
 ⟨h.b.setCell (Nat.le_of_lt h.n) u,Ba h.z (show w.heap.size≠g5 from Nat.ne_of_lt h.n) u,by rw[he];exact Bs h.i j u,h.n,Ba h.r (CU h.r h.i (by decide)) u⟩
theorem Kq{α:Type}{l:List α}{i:Nat}{o:α}(h:l[i]?=some o):l.toArray[i]?=some o:=by simpa using h
theorem EJ{w W W1:World}{g5 gw:Nat}{i:In}{cw:Array Value}{x:Value}(hb:Below W.heap.size W W1)(h:Af (D0 w W g5 i gw cw)∧W.cell? ⟨gw,0,none⟩=some x):Af (D0 w W1 g5 i gw cw)∧W1.cell? ⟨gw,0,none⟩=some x :=
 ⟨⟨h.1.out.keep hb⟩,(Bc (h.1.out.keep hb).r 0).trans ((Bc h.1.out.r 0).symm.trans h.2)⟩
theorem Kr{n:Nat}{v:Int}{l:List Int}(h:l.length<n):ES n v (l++[v])=ES n v l:=by
 unfold ES;rw[List.length_append,List.length_singleton,List.append_assoc,show n-l.length=(n-(l.length+1))+1 by omega,List.replicate_succ];rfl
theorem Ks{n:Nat}{v:Int}{l:List Int}(h:n≤l.length):ES n v l=l:=by
 unfold ES;rw[show n-l.length=0 by omega];simp
def sliceLen:Value→Nat
 |.slice _ n _=>n
 |_=>0
theorem XR{W:World}{g7 g5:Nat}{x0 x1 x2 x3:Int}(hne:g7≠g5)(j:Nat)(u:Value)
  (h:W.cell? ⟨g7,0,none⟩=some (.int .i64 x0)∧W.cell? ⟨g7,1,none⟩=some (.int .i64 x1)∧W.cell? ⟨g7,2,none⟩=some (.int .i64 x2)∧W.cell? ⟨g7,3,none⟩=some (.int .i64 x3)) :
  (W.setCell ⟨g5,j,none⟩ u).cell? ⟨g7,0,none⟩=some (.int .i64 x0)∧(W.setCell ⟨g5,j,none⟩ u).cell? ⟨g7,1,none⟩=some (.int .i64 x1)∧(W.setCell ⟨g5,j,none⟩ u).cell? ⟨g7,2,none⟩=some (.int .i64 x2)∧(W.setCell ⟨g5,j,none⟩ u).cell? ⟨g7,3,none⟩=some (.int .i64 x3):=by
 have e:(W.setCell ⟨g5,j,none⟩ u).heap[g7]?=W.heap[g7]?:=Below.heap_setCell W _ u g7 hne;exact⟨(World.cell?_of_block (w:=W) (a:=⟨g7,0,none⟩) e).trans h.1,(World.cell?_of_block (w:=W) (a:=⟨g7,1,none⟩) e).trans h.2.1,(World.cell?_of_block (w:=W) (a:=⟨g7,2,none⟩) e).trans h.2.2.1,(World.cell?_of_block (w:=W) (a:=⟨g7,3,none⟩) e).trans h.2.2.2⟩
theorem Dx{W:World}{g7 g5:Nat}{x0 x1 x2 x3:Int}(hne:g7≠g5)(j:Nat)(u:Value)
 (h:W.drew.cell? ⟨g7,0,none⟩=some (.int .i64 x0)∧W.drew.cell? ⟨g7,1,none⟩=some (.int .i64 x1)∧W.drew.cell? ⟨g7,2,none⟩=some (.int .i64 x2)∧W.drew.cell? ⟨g7,3,none⟩=some (.int .i64 x3)) :
 (W.setCell ⟨g5,j,none⟩ u).drew.cell? ⟨g7,0,none⟩=some (.int .i64 x0)∧(W.setCell ⟨g5,j,none⟩ u).drew.cell? ⟨g7,1,none⟩=some (.int .i64 x1)∧(W.setCell ⟨g5,j,none⟩ u).drew.cell? ⟨g7,2,none⟩=some (.int .i64 x2)∧(W.setCell ⟨g5,j,none⟩ u).drew.cell? ⟨g7,3,none⟩=some (.int .i64 x3):=XR (W:=W) hne j u h
theorem Ga(w:List UInt8):∀ (n:Nat) (op acc:Int),Gb w n op acc=acc∨Aj (Gb w n op acc)≠[]
 |0,op,acc=>.inl rfl
 |n+1,op,acc=>by
  rw[Gb];by_cases h:Aj op≠[]∧Aj op=w
  ·rw[if_pos h];rcases Ga w n (op+1) op with h1 |h1
   ·rw[h1];exact .inr h.1
   ·exact .inr h1
  ·rw[if_neg h];exact Ga w n (op+1) acc
theorem NU(w:List UInt8):Hy w=0∨(1≤Hy w∧Hy w≤13)∨(16≤Hy w∧Hy w≤23):=by
 rcases Ga w 23 1 0 with h |h
 ·exact .inl h
 ·exact .inr (Mg h)
theorem D0.BX{w W:World}{g5 gw:Nat}{i:In}{cw:Array Value}(h:D0 w W g5 i gw cw)(j:Nat)(h1:1≤j)(h5:j≤5)(v:Int):D0 w (W.setCell ⟨g5,j,none⟩ (.int .i64 v)) g5 (i.put v j) gw cw :=
 h.put j _ _ (In.Pu _ _ _ h1 h5).symm
theorem D0.NR{w W:World}{g5 gw:Nat}{i:In}{cw:Array Value}(h:D0 w W g5 i gw cw)(v:Int):D0 w (W.setCell ⟨g5,6,none⟩ (.int .u32 v)) g5 {i with k:=v} gw cw:=h.put 6 _ _ rfl
theorem D0.Ro{w W:World}{g5 gw:Nat}{i:In}{cw:Array Value}(h:D0 w W g5 i gw cw)(v:Int):D0 w (W.setCell ⟨g5,7,none⟩ (.int .i64 v)) g5 {i with q:=v} gw cw:=h.put 7 _ _ rfl
theorem Vl(op k x0 x1 x2 x3 y0 y1:Int)(hk:k=0∨k=1):(C9 op k x0 x1 x2 x3 y0 y1).wk:=by
 have hk':0≤k∧k≤4294967295:=by omega
 have h0:0≤y0%4294967296∧y0%4294967296≤4294967295:=by omega
 have h1:0≤y1%4294967296∧y1%4294967296≤4294967295:=by omega
 unfold C9 In.wk;repeat (first |split |assumption)
theorem SS(g m c:Nat)(hc:m+1≤c):∃ (A':Option Addr) (c':Nat),(∀ W:World,(Instr.slice 85 (.slice (some ⟨g,0,none⟩) (m+1) c) (some (.int .i64 1)) none none).run Tryz.prog W=.ok (.slice A' m c') W)∧(0<m→A'=some ⟨g,1,none⟩):=by
 refine⟨if c=1 then some ⟨g,0,none⟩ else some ⟨g,1,none⟩,c-1,fun W=>?_,fun h=>if_neg (by omega)⟩;obtain⟨i9,hi,hz0,hz1,hz2⟩:=info_parts GB;have hel:Tryz.prog.elem 85=9:=by simp[Program.elem,Tryz.underlying85]
 have hu:Tryz.prog.underlying 85=some (.slice (Tryz.prog.elem 85)):=by rw[hel];exact Tryz.underlying85
 rw[run_slice_l W 85 (some ⟨g,0,none⟩) (m+1) c hu .i64 1 (by omega) (by omega),hel];by_cases h1:c=1
 ·subst h1;have:m=0:=by omega
  subst this;simp[sizeOf,typeInfo,hi,hz1,sliced,Result.andThen]
 ·rw[if_neg h1];simp[sizeOf,typeInfo,hi,hz1,sliced,Result.andThen,h1,Addr.add]
def ER(op:Int):Prop:=∀ (w w5:World) (g5 g7 n7 c7 g:Nat) (cur:Array Value) (k x0 x1 x2 x3 y0 y1:Int) (_:Af (D0 w w5 g5 {In.zero with op:=op,k:=k} g cur)) (_:4≤n7) (_:g7≠g5)
 (_:w5.cell? ⟨g7,0,none⟩=some (.int .i64 x0)) (_:w5.cell? ⟨g7,1,none⟩=some (.int .i64 x1)) (_:w5.cell? ⟨g7,2,none⟩=some (.int .i64 x2)) (_:w5.cell? ⟨g7,3,none⟩=some (.int .i64 x3))
 (Q:Exit→Act→World→Prop)
 (t0 t1 t2 t3 t4 t6 t8 t9 t10 t11 t12 t15 t16 t17 t18 t19 t20 t21 t22 t23 t24 t25 t26 t27 t28 t29 t30 t31 t32 t33 t34 t35 t36 t37 t38 t39 t40 t41 t42 t43 t44 t45 t46 t47 t48 t49 t50 t51 t52 t53 t54 t55 t56 t57 t58 t59 t60 t61 t62 t63 t64 t65 t66 t67 t68 t69 t70 t71 t72 t73 t74 t75 t76 t77 t78 t79 t80 t81 t82 t83 t84 t85 t86 t87 t89 t90 t91 t92 t93 t94 t95 t96 t97 t98 t99 t100 t101 t102 t103 t104 t105 t106 t107 t108 t109 t110 t111 t112 t113 t114 t115 t116 t117 t118 t119 t120 t121 t122 t123 t124 t125 t126 t127 t128 t129 t130 t131 t132 t133 t134 t135 t136 t137 t138 t139 t140 t141 t142 t143 t144 t145 t146 t147 t148 t149 t150 t151 t152 t153 t154 t155 t156 t157 t158 t159 t160 t161 t162 t163 t164 t165 t166 t167 t168 t169 t170 t171 t172 t173 t174 t175 t176 t177 t178 t179 t180 t181 t182 t183 t184 t185 t186 t187 t188 t189 t190 t191 t192 t193 t194 t195 t196 t197 t198 t199 t200 t201 t202 t203 t204 t205 t206 t207 t208 t209 t210 t211 t212 t213 t214 t215:Value)
 (_:∀ (s89 s90 s91 s92 s93 s94 s95 s96 s97 s98 s99 s100 s101 s102 s103 s104 s105 s106 s107 s108 s109 s110 s111 s112 s113 s114 s115 s116 s117 s118 s119 s120 s121 s122 s123 s124 s125 s126 s127 s128 s129 s130 s131 s132 s133 s134 s135 s136 s137 s138 s139 s140 s141 s142 s143 s144 s145 s146 s147 s148 s149 s150 s151 s152 s153 s154 s155 s156 s157 s158 s159 s160 s161 s162 s163 s164 s165 s166 s167 s168 s169 s170 s171 s172 s173 s174 s175 s176 s177 s178 s179 s180 s181 s182 s183 s184 s185 s186 s187 s188 s189 s190 s191 s192 s193 s194 s195 s196 s197 s198 s199 s200 s201 s202 s203 s204:Value) (w':World),Af (D0 w w' g5 (C9 op k x0 x1 x2 x3 y0 y1) g cur)→Q .normal ⟨#[t0,t1,t2,t3,t4,.pointer (some ⟨g5,0,none⟩),t6,.slice (some ⟨g7,0,none⟩) n7 c7,t8,t9,t10,t11,t12,.int .i64 y0,.int .i64 y1,t15,t16,t17,t18,t19,t20,t21,t22,t23,t24,t25,t26,t27,t28,t29,t30,t31,t32,t33,t34,t35,t36,t37,t38,t39,t40,t41,t42,t43,t44,t45,t46,t47,t48,t49,t50,t51,t52,t53,t54,t55,t56,t57,t58,t59,t60,t61,t62,t63,t64,t65,t66,t67,t68,t69,t70,t71,t72,t73,t74,t75,t76,t77,t78,t79,t80,t81,t82,t83,t84,t85,t86,t87,.int .i64 op,s89,s90,s91,s92,s93,s94,s95,s96,s97,s98,s99,s100,s101,s102,s103,s104,s105,s106,s107,s108,s109,s110,s111,s112,s113,s114,s115,s116,s117,s118,s119,s120,s121,s122,s123,s124,s125,s126,s127,s128,s129,s130,s131,s132,s133,s134,s135,s136,s137,s138,s139,s140,s141,s142,s143,s144,s145,s146,s147,s148,s149,s150,s151,s152,s153,s154,s155,s156,s157,s158,s159,s160,s161,s162,s163,s164,s165,s166,s167,s168,s169,s170,s171,s172,s173,s174,s175,s176,s177,s178,s179,s180,s181,s182,s183,s184,s185,s186,s187,s188,s189,s190,s191,s192,s193,s194,s195,s196,s197,s198,s199,s200,s201,s202,s203,s204,t205,t206,t207,t208,t209,t210,t211,t212,t213,t214,t215],[]⟩ w'),
 Code.wp Tryz.prog Rx Q ⟨#[t0,t1,t2,t3,t4,.pointer (some ⟨g5,0,none⟩),t6,.slice (some ⟨g7,0,none⟩) n7 c7,t8,t9,t10,t11,t12,.int .i64 y0,.int .i64 y1,t15,t16,t17,t18,t19,t20,t21,t22,t23,t24,t25,t26,t27,t28,t29,t30,t31,t32,t33,t34,t35,t36,t37,t38,t39,t40,t41,t42,t43,t44,t45,t46,t47,t48,t49,t50,t51,t52,t53,t54,t55,t56,t57,t58,t59,t60,t61,t62,t63,t64,t65,t66,t67,t68,t69,t70,t71,t72,t73,t74,t75,t76,t77,t78,t79,t80,t81,t82,t83,t84,t85,t86,t87,.int .i64 op,t89,t90,t91,t92,t93,t94,t95,t96,t97,t98,t99,t100,t101,t102,t103,t104,t105,t106,t107,t108,t109,t110,t111,t112,t113,t114,t115,t116,t117,t118,t119,t120,t121,t122,t123,t124,t125,t126,t127,t128,t129,t130,t131,t132,t133,t134,t135,t136,t137,t138,t139,t140,t141,t142,t143,t144,t145,t146,t147,t148,t149,t150,t151,t152,t153,t154,t155,t156,t157,t158,t159,t160,t161,t162,t163,t164,t165,t166,t167,t168,t169,t170,t171,t172,t173,t174,t175,t176,t177,t178,t179,t180,t181,t182,t183,t184,t185,t186,t187,t188,t189,t190,t191,t192,t193,t194,t195,t196,t197,t198,t199,t200,t201,t202,t203,t204,t205,t206,t207,t208,t209,t210,t211,t212,t213,t214,t215],[]⟩ w5
theorem Aq{w W:World}{g5 g:Nat}{op k:Int}{cur:Array Value}(h:D0 w W g5 {In.zero with op:=op,k:=k} g cur)(j:Nat)(v:Value)(hv:(In.cs {In.zero with op:=op,k:=k})[j]?=some v):W.frozen? ⟨g5,j,none⟩=false∧W.cell? ⟨g5,j,none⟩=some v :=
 ⟨Bf h.i j,(Bc h.i j).trans hv⟩
abbrev S4(g7:Nat)(x0 x1 x2 x3:Int)(W:World):Prop:=W.cell? ⟨g7,0,none⟩=some (.int .i64 x0)∧W.cell? ⟨g7,1,none⟩=some (.int .i64 x1)∧W.cell? ⟨g7,2,none⟩=some (.int .i64 x2)∧W.cell? ⟨g7,3,none⟩=some (.int .i64 x3)
theorem Zh:ER 1:=by
 intro w w5 g5 g7 n7 c7 g cur k x0 x1 x2 x3 y0 y1 HI h4 hne r0' r1' r2' r3' Q
 intros
 rename_i hQ
 replace hQ:=Az hQ;obtain⟨f0,c0⟩:=Aq HI.out 0 _ rfl;obtain⟨f1,c1⟩:=Aq HI.out 1 _ rfl;obtain⟨f2,c2⟩:=Aq HI.out 2 _ rfl;obtain⟨f3,c3⟩:=Aq HI.out 3 _ rfl;obtain⟨f6,c6⟩:=Aq HI.out 6 _ rfl;have z5:g5<w5.heap.size:=Bl HI.out.i;have wr0:IntKind.u32.wrap y0=y0%4294967296:=IntKind.wrap_u32 _;have wr1:IntKind.u32.wrap y1=y1%4294967296:=IntKind.wrap_u32 _;obtain⟨q0,p0,q1,p1,q2,p2,q3,p3⟩:0<n7∧(0:Int)<(n7:Int)∧1<n7∧(1:Int)<(n7:Int)∧2<n7∧(2:Int)<(n7:Int)∧3<n7∧(3:Int)<(n7:Int):=by omega
 clear h4
 conv=>arg 2;whnf
 go_wp2_with fail
 have hS:S4 g7 x0 x1 x2 x3 w5.drew:=⟨r0',r1',r2',r3'⟩
 go_region_held3 (fun W=>S4 g7 x0 x1 x2 x3 W) (first |with_reducible exact hS |with_reducible exact Dx hne _ _ (by assumption)) (first |fail)
 have H:=Az (((HI.out.BX 1 (by decide) (by decide) x0).BX 2 (by decide) (by decide) x1).BX 3 (by decide) (by decide) x2).drew;obtain⟨w6,hw6⟩:∃ w6,w6=(((w5.setCell ⟨g5,1,none⟩ (.int .i64 x0)).setCell ⟨g5,2,none⟩ (.int .i64 x1)).setCell ⟨g5,3,none⟩ (.int .i64 x2)).drew:=⟨_,rfl⟩
 rw[←hw6]at H ⊢;clear hw6 HI hS f0 c0 f1 c1 f2 c2 f3 c3 f6 c6 r0' r1' r2' r3' z5;have d0:w6.cell? ⟨g5,0,none⟩=some (.int .i64 1):=(Bc H.out.i 0).trans rfl;have d6:w6.cell? ⟨g5,6,none⟩=some (.int .u32 k):=(Bc H.out.i 6).trans rfl;have e6:=Bf H.out.i 6;have e7:g5<w6.heap.size:=Bl H.out.i;go_wp2;rw[WV]at hQ;apply hQ.out;exact⟨H.out.NR (y0%4294967296)⟩
theorem Zi:ER 2:=by
 intro w w5 g5 g7 n7 c7 g cur k x0 x1 x2 x3 y0 y1 HI h4 hne r0' r1' r2' r3' Q
 intros
 rename_i hQ
 replace hQ:=Az hQ;obtain⟨f0,c0⟩:=Aq HI.out 0 _ rfl;obtain⟨f1,c1⟩:=Aq HI.out 1 _ rfl;obtain⟨f2,c2⟩:=Aq HI.out 2 _ rfl;obtain⟨f3,c3⟩:=Aq HI.out 3 _ rfl;have z5:g5<w5.heap.size:=Bl HI.out.i;have wr0:IntKind.u32.wrap y0=y0%4294967296:=IntKind.wrap_u32 _;have wr1:IntKind.u32.wrap y1=y1%4294967296:=IntKind.wrap_u32 _;obtain⟨q0,p0,q1,p1,q2,p2,q3,p3⟩:0<n7∧(0:Int)<(n7:Int)∧1<n7∧(1:Int)<(n7:Int)∧2<n7∧(2:Int)<(n7:Int)∧3<n7∧(3:Int)<(n7:Int):=by omega
 clear h4
 conv=>arg 2;whnf
 go_wp2_with fail
 have hS:S4 g7 x0 x1 x2 x3 w5.drew:=⟨r0',r1',r2',r3'⟩
 go_region_held3 (fun W=>S4 g7 x0 x1 x2 x3 W) (first |with_reducible exact hS |with_reducible exact Dx hne _ _ (by assumption)) (first |fail)
 have H:=Az (((HI.out.BX 1 (by decide) (by decide) x0).BX 2 (by decide) (by decide) x1).BX 3 (by decide) (by decide) x2).drew;obtain⟨w6,hw6⟩:∃ w6,w6=(((w5.setCell ⟨g5,1,none⟩ (.int .i64 x0)).setCell ⟨g5,2,none⟩ (.int .i64 x1)).setCell ⟨g5,3,none⟩ (.int .i64 x2)).drew:=⟨_,rfl⟩
 rw[←hw6]at H ⊢;clear hw6 HI hS f0 c0 f1 c1 f2 c2 f3 c3 r0' r1' r2' r3' z5;have d0:w6.cell? ⟨g5,0,none⟩=some (.int .i64 2):=(Bc H.out.i 0).trans rfl;go_wp2;rw[WW]at hQ;apply hQ.out;exact⟨H.out⟩
theorem Zj:ER 3:=by
 intro w w5 g5 g7 n7 c7 g cur k x0 x1 x2 x3 y0 y1 HI h4 hne r0' r1' r2' r3' Q
 intros
 rename_i hQ
 replace hQ:=Az hQ;obtain⟨f0,c0⟩:=Aq HI.out 0 _ rfl;obtain⟨f1,c1⟩:=Aq HI.out 1 _ rfl;obtain⟨f2,c2⟩:=Aq HI.out 2 _ rfl;obtain⟨f3,c3⟩:=Aq HI.out 3 _ rfl;obtain⟨f6,c6⟩:=Aq HI.out 6 _ rfl;have z5:g5<w5.heap.size:=Bl HI.out.i;have wr0:IntKind.u32.wrap y0=y0%4294967296:=IntKind.wrap_u32 _;have wr1:IntKind.u32.wrap y1=y1%4294967296:=IntKind.wrap_u32 _;obtain⟨q0,p0,q1,p1,q2,p2,q3,p3⟩:0<n7∧(0:Int)<(n7:Int)∧1<n7∧(1:Int)<(n7:Int)∧2<n7∧(2:Int)<(n7:Int)∧3<n7∧(3:Int)<(n7:Int):=by omega
 clear h4
 conv=>arg 2;whnf
 go_wp2_with fail
 have hS:S4 g7 x0 x1 x2 x3 w5.drew:=⟨r0',r1',r2',r3'⟩
 go_region_held3 (fun W=>S4 g7 x0 x1 x2 x3 W) (first |with_reducible exact hS |with_reducible exact Dx hne _ _ (by assumption)) (first |fail)
 have H:=Az (((HI.out.BX 1 (by decide) (by decide) x0).BX 2 (by decide) (by decide) x1).BX 3 (by decide) (by decide) x2).drew;obtain⟨w6,hw6⟩:∃ w6,w6=(((w5.setCell ⟨g5,1,none⟩ (.int .i64 x0)).setCell ⟨g5,2,none⟩ (.int .i64 x1)).setCell ⟨g5,3,none⟩ (.int .i64 x2)).drew:=⟨_,rfl⟩
 rw[←hw6]at H ⊢;clear hw6 HI hS f0 c0 f1 c1 f2 c2 f3 c3 f6 c6 r0' r1' r2' r3' z5;have d0:w6.cell? ⟨g5,0,none⟩=some (.int .i64 3):=(Bc H.out.i 0).trans rfl;have d6:w6.cell? ⟨g5,6,none⟩=some (.int .u32 k):=(Bc H.out.i 6).trans rfl;have e6:=Bf H.out.i 6;have e7:g5<w6.heap.size:=Bl H.out.i;go_wp2;rw[WX]at hQ;apply hQ.out;exact⟨H.out.NR (y0%4294967296)⟩
theorem Zk:ER 4:=by
 intro w w5 g5 g7 n7 c7 g cur k x0 x1 x2 x3 y0 y1 HI h4 hne r0' r1' r2' r3' Q
 intros
 rename_i hQ
 replace hQ:=Az hQ;obtain⟨f0,c0⟩:=Aq HI.out 0 _ rfl;obtain⟨f1,c1⟩:=Aq HI.out 1 _ rfl;obtain⟨f2,c2⟩:=Aq HI.out 2 _ rfl;obtain⟨f3,c3⟩:=Aq HI.out 3 _ rfl;obtain⟨f6,c6⟩:=Aq HI.out 6 _ rfl;have z5:g5<w5.heap.size:=Bl HI.out.i;have wr0:IntKind.u32.wrap y0=y0%4294967296:=IntKind.wrap_u32 _;have wr1:IntKind.u32.wrap y1=y1%4294967296:=IntKind.wrap_u32 _;obtain⟨q0,p0,q1,p1,q2,p2,q3,p3⟩:0<n7∧(0:Int)<(n7:Int)∧1<n7∧(1:Int)<(n7:Int)∧2<n7∧(2:Int)<(n7:Int)∧3<n7∧(3:Int)<(n7:Int):=by omega
 clear h4
 conv=>arg 2;whnf
 go_wp2_with fail
 have hS:S4 g7 x0 x1 x2 x3 w5.drew:=⟨r0',r1',r2',r3'⟩
 go_region_held3 (fun W=>S4 g7 x0 x1 x2 x3 W) (first |with_reducible exact hS |with_reducible exact Dx hne _ _ (by assumption)) (first |fail)
 have H:=Az (((HI.out.BX 1 (by decide) (by decide) x0).BX 2 (by decide) (by decide) x1).BX 3 (by decide) (by decide) x2).drew;obtain⟨w6,hw6⟩:∃ w6,w6=(((w5.setCell ⟨g5,1,none⟩ (.int .i64 x0)).setCell ⟨g5,2,none⟩ (.int .i64 x1)).setCell ⟨g5,3,none⟩ (.int .i64 x2)).drew:=⟨_,rfl⟩
 rw[←hw6]at H ⊢;clear hw6 HI hS f0 c0 f1 c1 f2 c2 f3 c3 f6 c6 r0' r1' r2' r3' z5;have d0:w6.cell? ⟨g5,0,none⟩=some (.int .i64 4):=(Bc H.out.i 0).trans rfl;have d6:w6.cell? ⟨g5,6,none⟩=some (.int .u32 k):=(Bc H.out.i 6).trans rfl;have e6:=Bf H.out.i 6;have e7:g5<w6.heap.size:=Bl H.out.i;go_wp2;rw[WY]at hQ;apply hQ.out;exact⟨H.out.NR (y0%4294967296)⟩
theorem Zl:ER 5:=by
 intro w w5 g5 g7 n7 c7 g cur k x0 x1 x2 x3 y0 y1 HI h4 hne r0' r1' r2' r3' Q
 intros
 rename_i hQ
 replace hQ:=Az hQ;obtain⟨f0,c0⟩:=Aq HI.out 0 _ rfl;obtain⟨f1,c1⟩:=Aq HI.out 1 _ rfl;obtain⟨f2,c2⟩:=Aq HI.out 2 _ rfl;obtain⟨f3,c3⟩:=Aq HI.out 3 _ rfl;obtain⟨f6,c6⟩:=Aq HI.out 6 _ rfl;have z5:g5<w5.heap.size:=Bl HI.out.i;have wr0:IntKind.u32.wrap y0=y0%4294967296:=IntKind.wrap_u32 _;have wr1:IntKind.u32.wrap y1=y1%4294967296:=IntKind.wrap_u32 _;obtain⟨q0,p0,q1,p1,q2,p2,q3,p3⟩:0<n7∧(0:Int)<(n7:Int)∧1<n7∧(1:Int)<(n7:Int)∧2<n7∧(2:Int)<(n7:Int)∧3<n7∧(3:Int)<(n7:Int):=by omega
 clear h4
 conv=>arg 2;whnf
 go_wp2_with fail
 have hS:S4 g7 x0 x1 x2 x3 w5.drew:=⟨r0',r1',r2',r3'⟩
 go_region_held3 (fun W=>S4 g7 x0 x1 x2 x3 W) (first |with_reducible exact hS |with_reducible exact Dx hne _ _ (by assumption)) (first |fail)
 have H:=Az (((HI.out.BX 1 (by decide) (by decide) x0).BX 2 (by decide) (by decide) x1).BX 3 (by decide) (by decide) x2).drew;obtain⟨w6,hw6⟩:∃ w6,w6=(((w5.setCell ⟨g5,1,none⟩ (.int .i64 x0)).setCell ⟨g5,2,none⟩ (.int .i64 x1)).setCell ⟨g5,3,none⟩ (.int .i64 x2)).drew:=⟨_,rfl⟩
 rw[←hw6]at H ⊢;clear hw6 HI hS f0 c0 f1 c1 f2 c2 f3 c3 f6 c6 r0' r1' r2' r3' z5;have d0:w6.cell? ⟨g5,0,none⟩=some (.int .i64 5):=(Bc H.out.i 0).trans rfl;have d6:w6.cell? ⟨g5,6,none⟩=some (.int .u32 k):=(Bc H.out.i 6).trans rfl;have e6:=Bf H.out.i 6;have e7:g5<w6.heap.size:=Bl H.out.i;go_wp2;rw[WZ]at hQ;apply hQ.out;exact⟨H.out.NR (y0%4294967296)⟩
theorem Zm:ER 6:=by
 intro w w5 g5 g7 n7 c7 g cur k x0 x1 x2 x3 y0 y1 HI h4 hne r0' r1' r2' r3' Q
 intros
 rename_i hQ
 replace hQ:=Az hQ;obtain⟨f0,c0⟩:=Aq HI.out 0 _ rfl;obtain⟨f1,c1⟩:=Aq HI.out 1 _ rfl;obtain⟨f2,c2⟩:=Aq HI.out 2 _ rfl;obtain⟨f3,c3⟩:=Aq HI.out 3 _ rfl;obtain⟨f6,c6⟩:=Aq HI.out 6 _ rfl;have z5:g5<w5.heap.size:=Bl HI.out.i;have wr0:IntKind.u32.wrap y0=y0%4294967296:=IntKind.wrap_u32 _;have wr1:IntKind.u32.wrap y1=y1%4294967296:=IntKind.wrap_u32 _;obtain⟨q0,p0,q1,p1,q2,p2,q3,p3⟩:0<n7∧(0:Int)<(n7:Int)∧1<n7∧(1:Int)<(n7:Int)∧2<n7∧(2:Int)<(n7:Int)∧3<n7∧(3:Int)<(n7:Int):=by omega
 clear h4
 conv=>arg 2;whnf
 go_wp2_with fail
 have hS:S4 g7 x0 x1 x2 x3 w5.drew:=⟨r0',r1',r2',r3'⟩
 go_region_held3 (fun W=>S4 g7 x0 x1 x2 x3 W) (first |with_reducible exact hS |with_reducible exact Dx hne _ _ (by assumption)) (first |fail)
 have H:=Az (((HI.out.BX 1 (by decide) (by decide) x0).BX 2 (by decide) (by decide) x1).BX 3 (by decide) (by decide) x2).drew;obtain⟨w6,hw6⟩:∃ w6,w6=(((w5.setCell ⟨g5,1,none⟩ (.int .i64 x0)).setCell ⟨g5,2,none⟩ (.int .i64 x1)).setCell ⟨g5,3,none⟩ (.int .i64 x2)).drew:=⟨_,rfl⟩
 rw[←hw6]at H ⊢;clear hw6 HI hS f0 c0 f1 c1 f2 c2 f3 c3 f6 c6 r0' r1' r2' r3' z5;have d0:w6.cell? ⟨g5,0,none⟩=some (.int .i64 6):=(Bc H.out.i 0).trans rfl;have d6:w6.cell? ⟨g5,6,none⟩=some (.int .u32 k):=(Bc H.out.i 6).trans rfl;have e6:=Bf H.out.i 6;have e7:g5<w6.heap.size:=Bl H.out.i;go_wp2;rw[Xa]at hQ;apply hQ.out;exact⟨H.out.NR (y0%4294967296)⟩
theorem Zn:ER 7:=by
 intro w w5 g5 g7 n7 c7 g cur k x0 x1 x2 x3 y0 y1 HI h4 hne r0' r1' r2' r3' Q
 intros
 rename_i hQ
 replace hQ:=Az hQ;obtain⟨f0,c0⟩:=Aq HI.out 0 _ rfl;obtain⟨f1,c1⟩:=Aq HI.out 1 _ rfl;obtain⟨f2,c2⟩:=Aq HI.out 2 _ rfl;obtain⟨f3,c3⟩:=Aq HI.out 3 _ rfl;have z5:g5<w5.heap.size:=Bl HI.out.i;have wr0:IntKind.u32.wrap y0=y0%4294967296:=IntKind.wrap_u32 _;have wr1:IntKind.u32.wrap y1=y1%4294967296:=IntKind.wrap_u32 _;obtain⟨q0,p0,q1,p1,q2,p2,q3,p3⟩:0<n7∧(0:Int)<(n7:Int)∧1<n7∧(1:Int)<(n7:Int)∧2<n7∧(2:Int)<(n7:Int)∧3<n7∧(3:Int)<(n7:Int):=by omega
 clear h4
 conv=>arg 2;whnf
 go_wp2_with fail
 have hS:S4 g7 x0 x1 x2 x3 w5.drew:=⟨r0',r1',r2',r3'⟩
 go_region_held3 (fun W=>S4 g7 x0 x1 x2 x3 W) (first |with_reducible exact hS |with_reducible exact Dx hne _ _ (by assumption)) (first |fail)
 have H:=Az (((HI.out.BX 1 (by decide) (by decide) x0).BX 2 (by decide) (by decide) x1).BX 3 (by decide) (by decide) x2).drew;obtain⟨w6,hw6⟩:∃ w6,w6=(((w5.setCell ⟨g5,1,none⟩ (.int .i64 x0)).setCell ⟨g5,2,none⟩ (.int .i64 x1)).setCell ⟨g5,3,none⟩ (.int .i64 x2)).drew:=⟨_,rfl⟩
 rw[←hw6]at H ⊢;clear hw6 HI hS f0 c0 f1 c1 f2 c2 f3 c3 r0' r1' r2' r3' z5;have d0:w6.cell? ⟨g5,0,none⟩=some (.int .i64 7):=(Bc H.out.i 0).trans rfl;go_wp2;rw[Xb]at hQ;apply hQ.out;exact⟨H.out⟩
theorem Yj:ER 11:=by
 intro w w5 g5 g7 n7 c7 g cur k x0 x1 x2 x3 y0 y1 HI h4 hne r0' r1' r2' r3' Q
 intros
 rename_i hQ
 replace hQ:=Az hQ;obtain⟨f0,c0⟩:=Aq HI.out 0 _ rfl;obtain⟨f1,c1⟩:=Aq HI.out 1 _ rfl;obtain⟨f2,c2⟩:=Aq HI.out 2 _ rfl;obtain⟨f3,c3⟩:=Aq HI.out 3 _ rfl;have z5:g5<w5.heap.size:=Bl HI.out.i;have wr0:IntKind.u32.wrap y0=y0%4294967296:=IntKind.wrap_u32 _;have wr1:IntKind.u32.wrap y1=y1%4294967296:=IntKind.wrap_u32 _;obtain⟨q0,p0,q1,p1,q2,p2,q3,p3⟩:0<n7∧(0:Int)<(n7:Int)∧1<n7∧(1:Int)<(n7:Int)∧2<n7∧(2:Int)<(n7:Int)∧3<n7∧(3:Int)<(n7:Int):=by omega
 clear h4
 conv=>arg 2;whnf
 go_wp2_with fail
 have hS:S4 g7 x0 x1 x2 x3 w5.drew:=⟨r0',r1',r2',r3'⟩
 go_region_held3 (fun W=>S4 g7 x0 x1 x2 x3 W) (first |with_reducible exact hS |with_reducible exact Dx hne _ _ (by assumption)) (first |fail)
 have H:=Az (((HI.out.BX 1 (by decide) (by decide) x0).BX 2 (by decide) (by decide) x1).BX 3 (by decide) (by decide) x2).drew;obtain⟨w6,hw6⟩:∃ w6,w6=(((w5.setCell ⟨g5,1,none⟩ (.int .i64 x0)).setCell ⟨g5,2,none⟩ (.int .i64 x1)).setCell ⟨g5,3,none⟩ (.int .i64 x2)).drew:=⟨_,rfl⟩
 rw[←hw6]at H ⊢;clear hw6 HI hS f0 c0 f1 c1 f2 c2 f3 c3 r0' r1' r2' r3' z5;have d0:w6.cell? ⟨g5,0,none⟩=some (.int .i64 11):=(Bc H.out.i 0).trans rfl;go_wp2;rw[Vi]at hQ;apply hQ.out;exact⟨H.out⟩
theorem Yl:ER 22:=by
 intro w w5 g5 g7 n7 c7 g cur k x0 x1 x2 x3 y0 y1 HI h4 hne r0' r1' r2' r3' Q
 intros
 rename_i hQ
 replace hQ:=Az hQ;obtain⟨f0,c0⟩:=Aq HI.out 0 _ rfl;obtain⟨f1,c1⟩:=Aq HI.out 1 _ rfl;obtain⟨f2,c2⟩:=Aq HI.out 2 _ rfl;obtain⟨f3,c3⟩:=Aq HI.out 3 _ rfl;have z5:g5<w5.heap.size:=Bl HI.out.i;have wr0:IntKind.u32.wrap y0=y0%4294967296:=IntKind.wrap_u32 _;have wr1:IntKind.u32.wrap y1=y1%4294967296:=IntKind.wrap_u32 _;obtain⟨q0,p0,q1,p1,q2,p2,q3,p3⟩:0<n7∧(0:Int)<(n7:Int)∧1<n7∧(1:Int)<(n7:Int)∧2<n7∧(2:Int)<(n7:Int)∧3<n7∧(3:Int)<(n7:Int):=by omega
 clear h4
 conv=>arg 2;whnf
 go_wp2_with fail
 have hS:S4 g7 x0 x1 x2 x3 w5.drew:=⟨r0',r1',r2',r3'⟩
 go_region_held3 (fun W=>S4 g7 x0 x1 x2 x3 W) (first |with_reducible exact hS |with_reducible exact Dx hne _ _ (by assumption)) (first |fail)
 have H:=Az (((HI.out.BX 1 (by decide) (by decide) x0).BX 2 (by decide) (by decide) x1).BX 3 (by decide) (by decide) x2).drew;obtain⟨w6,hw6⟩:∃ w6,w6=(((w5.setCell ⟨g5,1,none⟩ (.int .i64 x0)).setCell ⟨g5,2,none⟩ (.int .i64 x1)).setCell ⟨g5,3,none⟩ (.int .i64 x2)).drew:=⟨_,rfl⟩
 rw[←hw6]at H ⊢;clear hw6 HI hS f0 c0 f1 c1 f2 c2 f3 c3 r0' r1' r2' r3' z5;have d0:w6.cell? ⟨g5,0,none⟩=some (.int .i64 22):=(Bc H.out.i 0).trans rfl;go_wp2;rw[Vk]at hQ;apply hQ.out;exact⟨H.out⟩
theorem Zo:ER 8:=by
 intro w w5 g5 g7 n7 c7 g cur k x0 x1 x2 x3 y0 y1 HI h4 hne r0' r1' r2' r3' Q
 intros
 rename_i hQ
 replace hQ:=Az hQ;obtain⟨f0,c0⟩:=Aq HI.out 0 _ rfl;obtain⟨f2,c2⟩:=Aq HI.out 2 _ rfl;obtain⟨f3,c3⟩:=Aq HI.out 3 _ rfl;obtain⟨f7,c7⟩:=Aq HI.out 7 _ rfl;have z5:g5<w5.heap.size:=Bl HI.out.i;have wr0:IntKind.u32.wrap y0=y0%4294967296:=IntKind.wrap_u32 _;have wr1:IntKind.u32.wrap y1=y1%4294967296:=IntKind.wrap_u32 _;obtain⟨q0,p0,q1,p1,q2,p2,q3,p3⟩:0<n7∧(0:Int)<(n7:Int)∧1<n7∧(1:Int)<(n7:Int)∧2<n7∧(2:Int)<(n7:Int)∧3<n7∧(3:Int)<(n7:Int):=by omega
 clear h4
 conv=>arg 2;whnf
 go_wp2_with fail
 have hS:S4 g7 x0 x1 x2 x3 w5.drew:=⟨r0',r1',r2',r3'⟩
 go_region_held3 (fun W=>S4 g7 x0 x1 x2 x3 W) (first |with_reducible exact hS |with_reducible exact Dx hne _ _ (by assumption)) (first |fail)
 have H:=Az (((HI.out.BX 2 (by decide) (by decide) x0).BX 3 (by decide) (by decide) x1).Ro y0).drew;obtain⟨w6,hw6⟩:∃ w6,w6=(((w5.setCell ⟨g5,2,none⟩ (.int .i64 x0)).setCell ⟨g5,3,none⟩ (.int .i64 x1)).setCell ⟨g5,7,none⟩ (.int .i64 y0)).drew:=⟨_,rfl⟩
 rw[←hw6]at H ⊢;clear hw6 HI hS f0 c0 f2 c2 f3 c3 f7 c7 r0' r1' r2' r3' z5;go_wp2;rw[Xc]at hQ;apply hQ.out;exact⟨H.out⟩
theorem Zp:ER 9:=by
 intro w w5 g5 g7 n7 c7 g cur k x0 x1 x2 x3 y0 y1 HI h4 hne r0' r1' r2' r3' Q
 intros
 rename_i hQ
 replace hQ:=Az hQ;obtain⟨f0,c0⟩:=Aq HI.out 0 _ rfl;obtain⟨f2,c2⟩:=Aq HI.out 2 _ rfl;obtain⟨f3,c3⟩:=Aq HI.out 3 _ rfl;obtain⟨f7,c7⟩:=Aq HI.out 7 _ rfl;have z5:g5<w5.heap.size:=Bl HI.out.i;have wr0:IntKind.u32.wrap y0=y0%4294967296:=IntKind.wrap_u32 _;have wr1:IntKind.u32.wrap y1=y1%4294967296:=IntKind.wrap_u32 _;obtain⟨q0,p0,q1,p1,q2,p2,q3,p3⟩:0<n7∧(0:Int)<(n7:Int)∧1<n7∧(1:Int)<(n7:Int)∧2<n7∧(2:Int)<(n7:Int)∧3<n7∧(3:Int)<(n7:Int):=by omega
 clear h4
 conv=>arg 2;whnf
 go_wp2_with fail
 have hS:S4 g7 x0 x1 x2 x3 w5.drew:=⟨r0',r1',r2',r3'⟩
 go_region_held3 (fun W=>S4 g7 x0 x1 x2 x3 W) (first |with_reducible exact hS |with_reducible exact Dx hne _ _ (by assumption)) (first |fail)
 have H:=Az (((HI.out.BX 2 (by decide) (by decide) x0).BX 3 (by decide) (by decide) x1).Ro y0).drew;obtain⟨w6,hw6⟩:∃ w6,w6=(((w5.setCell ⟨g5,2,none⟩ (.int .i64 x0)).setCell ⟨g5,3,none⟩ (.int .i64 x1)).setCell ⟨g5,7,none⟩ (.int .i64 y0)).drew:=⟨_,rfl⟩
 rw[←hw6]at H ⊢;clear hw6 HI hS f0 c0 f2 c2 f3 c3 f7 c7 r0' r1' r2' r3' z5;go_wp2;rw[Xd]at hQ;apply hQ.out;exact⟨H.out⟩
theorem Yi:ER 10:=by
 intro w w5 g5 g7 n7 c7 g cur k x0 x1 x2 x3 y0 y1 HI h4 hne r0' r1' r2' r3' Q
 intros
 rename_i hQ
 replace hQ:=Az hQ;obtain⟨f0,c0⟩:=Aq HI.out 0 _ rfl;obtain⟨f2,c2⟩:=Aq HI.out 2 _ rfl;obtain⟨f3,c3⟩:=Aq HI.out 3 _ rfl;obtain⟨f7,c7⟩:=Aq HI.out 7 _ rfl;have z5:g5<w5.heap.size:=Bl HI.out.i;have wr0:IntKind.u32.wrap y0=y0%4294967296:=IntKind.wrap_u32 _;have wr1:IntKind.u32.wrap y1=y1%4294967296:=IntKind.wrap_u32 _;obtain⟨q0,p0,q1,p1,q2,p2,q3,p3⟩:0<n7∧(0:Int)<(n7:Int)∧1<n7∧(1:Int)<(n7:Int)∧2<n7∧(2:Int)<(n7:Int)∧3<n7∧(3:Int)<(n7:Int):=by omega
 clear h4
 conv=>arg 2;whnf
 go_wp2_with fail
 have hS:S4 g7 x0 x1 x2 x3 w5.drew:=⟨r0',r1',r2',r3'⟩
 go_region_held3 (fun W=>S4 g7 x0 x1 x2 x3 W) (first |with_reducible exact hS |with_reducible exact Dx hne _ _ (by assumption)) (first |fail)
 have H:=Az (((HI.out.BX 2 (by decide) (by decide) x0).BX 3 (by decide) (by decide) x1).Ro y0).drew;obtain⟨w6,hw6⟩:∃ w6,w6=(((w5.setCell ⟨g5,2,none⟩ (.int .i64 x0)).setCell ⟨g5,3,none⟩ (.int .i64 x1)).setCell ⟨g5,7,none⟩ (.int .i64 y0)).drew:=⟨_,rfl⟩
 rw[←hw6]at H ⊢;clear hw6 HI hS f0 c0 f2 c2 f3 c3 f7 c7 r0' r1' r2' r3' z5;go_wp2;rw[Vh]at hQ;apply hQ.out;exact⟨H.out⟩
theorem Yk:ER 16:=by
 intro w w5 g5 g7 n7 c7 g cur k x0 x1 x2 x3 y0 y1 HI h4 hne r0' r1' r2' r3' Q
 intros
 rename_i hQ
 replace hQ:=Az hQ;obtain⟨f0,c0⟩:=Aq HI.out 0 _ rfl;obtain⟨f1,c1⟩:=Aq HI.out 1 _ rfl;obtain⟨f2,c2⟩:=Aq HI.out 2 _ rfl;obtain⟨f3,c3⟩:=Aq HI.out 3 _ rfl;obtain⟨f4,c4⟩:=Aq HI.out 4 _ rfl;obtain⟨f5,c5⟩:=Aq HI.out 5 _ rfl;have z5:g5<w5.heap.size:=Bl HI.out.i;have wr0:IntKind.u32.wrap y0=y0%4294967296:=IntKind.wrap_u32 _;have wr1:IntKind.u32.wrap y1=y1%4294967296:=IntKind.wrap_u32 _;obtain⟨q0,p0,q1,p1,q2,p2,q3,p3⟩:0<n7∧(0:Int)<(n7:Int)∧1<n7∧(1:Int)<(n7:Int)∧2<n7∧(2:Int)<(n7:Int)∧3<n7∧(3:Int)<(n7:Int):=by omega
 clear h4
 conv=>arg 2;whnf
 go_wp2_with fail
 have hS:S4 g7 x0 x1 x2 x3 w5.drew:=⟨r0',r1',r2',r3'⟩
 go_region_held3 (fun W=>S4 g7 x0 x1 x2 x3 W) (first |with_reducible exact hS |with_reducible exact Dx hne _ _ (by assumption)) (first |fail)
 have H:=Az (((((HI.out.BX 1 (by decide) (by decide) x0).BX 2 (by decide) (by decide) x1).BX 3 (by decide) (by decide) x2).BX 4 (by decide) (by decide) x3).BX 5 (by decide) (by decide) y0).drew;obtain⟨w6,hw6⟩:∃ w6,w6=(((((w5.setCell ⟨g5,1,none⟩ (.int .i64 x0)).setCell ⟨g5,2,none⟩ (.int .i64 x1)).setCell ⟨g5,3,none⟩ (.int .i64 x2)).setCell ⟨g5,4,none⟩ (.int .i64 x3)).setCell ⟨g5,5,none⟩ (.int .i64 y0)).drew:=⟨_,rfl⟩
 rw[←hw6]at H ⊢;clear hw6 HI hS f0 c0 f1 c1 f2 c2 f3 c3 f4 c4 f5 c5 r0' r1' r2' r3' z5;have d0:w6.cell? ⟨g5,0,none⟩=some (.int .i64 16):=(Bc H.out.i 0).trans rfl;go_wp2;rw[Vj]at hQ;apply hQ.out;exact⟨H.out⟩
theorem XI:ER 18:=by
 intro w w5 g5 g7 n7 c7 g cur k x0 x1 x2 x3 y0 y1 HI h4 hne r0' r1' r2' r3' Q
 intros
 rename_i hQ
 replace hQ:=Az hQ;obtain⟨f0,c0⟩:=Aq HI.out 0 _ rfl;obtain⟨f1,c1⟩:=Aq HI.out 1 _ rfl;obtain⟨f2,c2⟩:=Aq HI.out 2 _ rfl;obtain⟨f3,c3⟩:=Aq HI.out 3 _ rfl;obtain⟨f4,c4⟩:=Aq HI.out 4 _ rfl;obtain⟨f5,c5⟩:=Aq HI.out 5 _ rfl;have z5:g5<w5.heap.size:=Bl HI.out.i;have wr0:IntKind.u32.wrap y0=y0%4294967296:=IntKind.wrap_u32 _;have wr1:IntKind.u32.wrap y1=y1%4294967296:=IntKind.wrap_u32 _;obtain⟨q0,p0,q1,p1,q2,p2,q3,p3⟩:0<n7∧(0:Int)<(n7:Int)∧1<n7∧(1:Int)<(n7:Int)∧2<n7∧(2:Int)<(n7:Int)∧3<n7∧(3:Int)<(n7:Int):=by omega
 clear h4
 conv=>arg 2;whnf
 go_wp2_with fail
 have hS:S4 g7 x0 x1 x2 x3 w5.drew:=⟨r0',r1',r2',r3'⟩
 go_region_held3 (fun W=>S4 g7 x0 x1 x2 x3 W) (first |with_reducible exact hS |with_reducible exact Dx hne _ _ (by assumption)) (first |fail)
 have H:=Az (((((HI.out.BX 1 (by decide) (by decide) x0).BX 2 (by decide) (by decide) x1).BX 3 (by decide) (by decide) x2).BX 4 (by decide) (by decide) x3).BX 5 (by decide) (by decide) y0).drew;obtain⟨w6,hw6⟩:∃ w6,w6=(((((w5.setCell ⟨g5,1,none⟩ (.int .i64 x0)).setCell ⟨g5,2,none⟩ (.int .i64 x1)).setCell ⟨g5,3,none⟩ (.int .i64 x2)).setCell ⟨g5,4,none⟩ (.int .i64 x3)).setCell ⟨g5,5,none⟩ (.int .i64 y0)).drew:=⟨_,rfl⟩
 rw[←hw6]at H ⊢;clear hw6 HI hS f0 c0 f1 c1 f2 c2 f3 c3 f4 c4 f5 c5 r0' r1' r2' r3' z5;have d0:w6.cell? ⟨g5,0,none⟩=some (.int .i64 18):=(Bc H.out.i 0).trans rfl;go_wp2;rw[UU]at hQ;apply hQ.out;exact⟨H.out⟩
theorem XJ:ER 19:=by
 intro w w5 g5 g7 n7 c7 g cur k x0 x1 x2 x3 y0 y1 HI h4 hne r0' r1' r2' r3' Q
 intros
 rename_i hQ
 replace hQ:=Az hQ;obtain⟨f0,c0⟩:=Aq HI.out 0 _ rfl;obtain⟨f1,c1⟩:=Aq HI.out 1 _ rfl;obtain⟨f2,c2⟩:=Aq HI.out 2 _ rfl;obtain⟨f3,c3⟩:=Aq HI.out 3 _ rfl;obtain⟨f4,c4⟩:=Aq HI.out 4 _ rfl;obtain⟨f5,c5⟩:=Aq HI.out 5 _ rfl;have z5:g5<w5.heap.size:=Bl HI.out.i;have wr0:IntKind.u32.wrap y0=y0%4294967296:=IntKind.wrap_u32 _;have wr1:IntKind.u32.wrap y1=y1%4294967296:=IntKind.wrap_u32 _;obtain⟨q0,p0,q1,p1,q2,p2,q3,p3⟩:0<n7∧(0:Int)<(n7:Int)∧1<n7∧(1:Int)<(n7:Int)∧2<n7∧(2:Int)<(n7:Int)∧3<n7∧(3:Int)<(n7:Int):=by omega
 clear h4
 conv=>arg 2;whnf
 go_wp2_with fail
 have hS:S4 g7 x0 x1 x2 x3 w5.drew:=⟨r0',r1',r2',r3'⟩
 go_region_held3 (fun W=>S4 g7 x0 x1 x2 x3 W) (first |with_reducible exact hS |with_reducible exact Dx hne _ _ (by assumption)) (first |fail)
 have H:=Az (((((HI.out.BX 1 (by decide) (by decide) x0).BX 2 (by decide) (by decide) x1).BX 3 (by decide) (by decide) x2).BX 4 (by decide) (by decide) x3).BX 5 (by decide) (by decide) y0).drew;obtain⟨w6,hw6⟩:∃ w6,w6=(((((w5.setCell ⟨g5,1,none⟩ (.int .i64 x0)).setCell ⟨g5,2,none⟩ (.int .i64 x1)).setCell ⟨g5,3,none⟩ (.int .i64 x2)).setCell ⟨g5,4,none⟩ (.int .i64 x3)).setCell ⟨g5,5,none⟩ (.int .i64 y0)).drew:=⟨_,rfl⟩
 rw[←hw6]at H ⊢;clear hw6 HI hS f0 c0 f1 c1 f2 c2 f3 c3 f4 c4 f5 c5 r0' r1' r2' r3' z5;have d0:w6.cell? ⟨g5,0,none⟩=some (.int .i64 19):=(Bc H.out.i 0).trans rfl;go_wp2;rw[UW]at hQ;apply hQ.out;exact⟨H.out⟩
theorem XK:ER 20:=by
 intro w w5 g5 g7 n7 c7 g cur k x0 x1 x2 x3 y0 y1 HI h4 hne r0' r1' r2' r3' Q
 intros
 rename_i hQ
 replace hQ:=Az hQ;obtain⟨f0,c0⟩:=Aq HI.out 0 _ rfl;obtain⟨f1,c1⟩:=Aq HI.out 1 _ rfl;obtain⟨f2,c2⟩:=Aq HI.out 2 _ rfl;obtain⟨f3,c3⟩:=Aq HI.out 3 _ rfl;obtain⟨f4,c4⟩:=Aq HI.out 4 _ rfl;obtain⟨f5,c5⟩:=Aq HI.out 5 _ rfl;obtain⟨f6,c6⟩:=Aq HI.out 6 _ rfl;have z5:g5<w5.heap.size:=Bl HI.out.i;have wr0:IntKind.u32.wrap y0=y0%4294967296:=IntKind.wrap_u32 _;have wr1:IntKind.u32.wrap y1=y1%4294967296:=IntKind.wrap_u32 _;obtain⟨q0,p0,q1,p1,q2,p2,q3,p3⟩:0<n7∧(0:Int)<(n7:Int)∧1<n7∧(1:Int)<(n7:Int)∧2<n7∧(2:Int)<(n7:Int)∧3<n7∧(3:Int)<(n7:Int):=by omega
 clear h4
 conv=>arg 2;whnf
 go_wp2_with fail
 have hS:S4 g7 x0 x1 x2 x3 w5.drew:=⟨r0',r1',r2',r3'⟩
 go_region_held3 (fun W=>S4 g7 x0 x1 x2 x3 W) (first |with_reducible exact hS |with_reducible exact Dx hne _ _ (by assumption)) (first |fail)
 have H:=Az (((((HI.out.BX 1 (by decide) (by decide) x0).BX 2 (by decide) (by decide) x1).BX 3 (by decide) (by decide) x2).BX 4 (by decide) (by decide) x3).BX 5 (by decide) (by decide) y0).drew;obtain⟨w6,hw6⟩:∃ w6,w6=(((((w5.setCell ⟨g5,1,none⟩ (.int .i64 x0)).setCell ⟨g5,2,none⟩ (.int .i64 x1)).setCell ⟨g5,3,none⟩ (.int .i64 x2)).setCell ⟨g5,4,none⟩ (.int .i64 x3)).setCell ⟨g5,5,none⟩ (.int .i64 y0)).drew:=⟨_,rfl⟩
 rw[←hw6]at H ⊢;clear hw6 HI hS f0 c0 f1 c1 f2 c2 f3 c3 f4 c4 f5 c5 f6 c6 r0' r1' r2' r3' z5;have d0:w6.cell? ⟨g5,0,none⟩=some (.int .i64 20):=(Bc H.out.i 0).trans rfl;have d6:w6.cell? ⟨g5,6,none⟩=some (.int .u32 k):=(Bc H.out.i 6).trans rfl;have e6:=Bf H.out.i 6;have e7:g5<w6.heap.size:=Bl H.out.i;go_wp2;rw[UX]at hQ;apply hQ.out;exact⟨H.out.NR (y1%4294967296)⟩
theorem XL:ER 21:=by
 intro w w5 g5 g7 n7 c7 g cur k x0 x1 x2 x3 y0 y1 HI h4 hne r0' r1' r2' r3' Q
 intros
 rename_i hQ
 replace hQ:=Az hQ;obtain⟨f0,c0⟩:=Aq HI.out 0 _ rfl;obtain⟨f1,c1⟩:=Aq HI.out 1 _ rfl;obtain⟨f2,c2⟩:=Aq HI.out 2 _ rfl;obtain⟨f3,c3⟩:=Aq HI.out 3 _ rfl;obtain⟨f4,c4⟩:=Aq HI.out 4 _ rfl;obtain⟨f5,c5⟩:=Aq HI.out 5 _ rfl;obtain⟨f7,c7⟩:=Aq HI.out 7 _ rfl;have z5:g5<w5.heap.size:=Bl HI.out.i;have wr0:IntKind.u32.wrap y0=y0%4294967296:=IntKind.wrap_u32 _;have wr1:IntKind.u32.wrap y1=y1%4294967296:=IntKind.wrap_u32 _;obtain⟨q0,p0,q1,p1,q2,p2,q3,p3⟩:0<n7∧(0:Int)<(n7:Int)∧1<n7∧(1:Int)<(n7:Int)∧2<n7∧(2:Int)<(n7:Int)∧3<n7∧(3:Int)<(n7:Int):=by omega
 clear h4
 conv=>arg 2;whnf
 go_wp2_with fail
 have hS:S4 g7 x0 x1 x2 x3 w5.drew:=⟨r0',r1',r2',r3'⟩
 go_region_held3 (fun W=>S4 g7 x0 x1 x2 x3 W) (first |with_reducible exact hS |with_reducible exact Dx hne _ _ (by assumption)) (first |fail)
 have H:=Az (((((HI.out.BX 1 (by decide) (by decide) x0).BX 2 (by decide) (by decide) x1).BX 3 (by decide) (by decide) x2).BX 4 (by decide) (by decide) x3).BX 5 (by decide) (by decide) y0).drew;obtain⟨w6,hw6⟩:∃ w6,w6=(((((w5.setCell ⟨g5,1,none⟩ (.int .i64 x0)).setCell ⟨g5,2,none⟩ (.int .i64 x1)).setCell ⟨g5,3,none⟩ (.int .i64 x2)).setCell ⟨g5,4,none⟩ (.int .i64 x3)).setCell ⟨g5,5,none⟩ (.int .i64 y0)).drew:=⟨_,rfl⟩
 rw[←hw6]at H ⊢;clear hw6 HI hS f0 c0 f1 c1 f2 c2 f3 c3 f4 c4 f5 c5 f7 c7 r0' r1' r2' r3' z5;have d0:w6.cell? ⟨g5,0,none⟩=some (.int .i64 21):=(Bc H.out.i 0).trans rfl;have d6:w6.cell? ⟨g5,7,none⟩=some (.int .i64 0):=(Bc H.out.i 7).trans rfl;have e6:=Bf H.out.i 7;have e7:g5<w6.heap.size:=Bl H.out.i;go_wp2;rw[UY]at hQ;apply hQ.out;exact⟨H.out.Ro y1⟩
theorem XM:ER 17:=by
 intro w w5 g5 g7 n7 c7 g cur k x0 x1 x2 x3 y0 y1 HI h4 hne r0' r1' r2' r3' Q
 intros
 rename_i hQ
 replace hQ:=Az hQ;obtain⟨f0,c0⟩:=Aq HI.out 0 _ rfl;obtain⟨f2,c2⟩:=Aq HI.out 2 _ rfl;obtain⟨f3,c3⟩:=Aq HI.out 3 _ rfl;obtain⟨f5,c5⟩:=Aq HI.out 5 _ rfl;have z5:g5<w5.heap.size:=Bl HI.out.i;have wr0:IntKind.u32.wrap y0=y0%4294967296:=IntKind.wrap_u32 _;have wr1:IntKind.u32.wrap y1=y1%4294967296:=IntKind.wrap_u32 _;obtain⟨q0,p0,q1,p1,q2,p2,q3,p3⟩:0<n7∧(0:Int)<(n7:Int)∧1<n7∧(1:Int)<(n7:Int)∧2<n7∧(2:Int)<(n7:Int)∧3<n7∧(3:Int)<(n7:Int):=by omega
 clear h4
 conv=>arg 2;whnf
 go_wp2_with fail
 have hS:S4 g7 x0 x1 x2 x3 w5.drew:=⟨r0',r1',r2',r3'⟩
 go_region_held3 (fun W=>S4 g7 x0 x1 x2 x3 W) (first |with_reducible exact hS |with_reducible exact Dx hne _ _ (by assumption)) (first |fail)
 have H:=Az (((HI.out.BX 2 (by decide) (by decide) x0).BX 3 (by decide) (by decide) x1).BX 5 (by decide) (by decide) y0).drew;obtain⟨w6,hw6⟩:∃ w6,w6=(((w5.setCell ⟨g5,2,none⟩ (.int .i64 x0)).setCell ⟨g5,3,none⟩ (.int .i64 x1)).setCell ⟨g5,5,none⟩ (.int .i64 y0)).drew:=⟨_,rfl⟩
 rw[←hw6]at H ⊢;clear hw6 HI hS f0 c0 f2 c2 f3 c3 f5 c5 r0' r1' r2' r3' z5;go_wp2;rw[UZ]at hQ;apply hQ.out;exact⟨H.out⟩
theorem XN:ER 23:=by
 intro w w5 g5 g7 n7 c7 g cur k x0 x1 x2 x3 y0 y1 HI h4 hne r0' r1' r2' r3' Q
 intros
 rename_i hQ
 replace hQ:=Az hQ;obtain⟨f0,c0⟩:=Aq HI.out 0 _ rfl;obtain⟨f2,c2⟩:=Aq HI.out 2 _ rfl;have z5:g5<w5.heap.size:=Bl HI.out.i;have wr0:IntKind.u32.wrap y0=y0%4294967296:=IntKind.wrap_u32 _;have wr1:IntKind.u32.wrap y1=y1%4294967296:=IntKind.wrap_u32 _;obtain⟨q0,p0,q1,p1,q2,p2,q3,p3⟩:0<n7∧(0:Int)<(n7:Int)∧1<n7∧(1:Int)<(n7:Int)∧2<n7∧(2:Int)<(n7:Int)∧3<n7∧(3:Int)<(n7:Int):=by omega
 clear h4
 conv=>arg 2;whnf
 go_wp2;rw[Va]at hQ;apply hQ.out;exact⟨HI.out.BX 2 (by decide) (by decide) x0⟩
theorem YQ:ER 0:=by
 intro w w5 g5 g7 n7 c7 g cur k x0 x1 x2 x3 y0 y1 HI h4 hne r0' r1' r2' r3' Q
 intros
 rename_i hQ
 replace hQ:=Az hQ;obtain⟨f0,c0⟩:=Aq HI.out 0 _ rfl;have z5:g5<w5.heap.size:=Bl HI.out.i;have wr0:IntKind.u32.wrap y0=y0%4294967296:=IntKind.wrap_u32 _;have wr1:IntKind.u32.wrap y1=y1%4294967296:=IntKind.wrap_u32 _;obtain⟨q0,p0,q1,p1,q2,p2,q3,p3⟩:0<n7∧(0:Int)<(n7:Int)∧1<n7∧(1:Int)<(n7:Int)∧2<n7∧(2:Int)<(n7:Int)∧3<n7∧(3:Int)<(n7:Int):=by omega
 clear h4
 conv=>arg 2;whnf
 go_wp2;rw[WQ]at hQ;apply hQ.out;exact⟨HI.out⟩
theorem XO:ER 12:=by
 intro w w5 g5 g7 n7 c7 g cur k x0 x1 x2 x3 y0 y1 HI h4 hne r0' r1' r2' r3' Q
 intros
 rename_i hQ
 replace hQ:=Az hQ;obtain⟨f0,c0⟩:=Aq HI.out 0 _ rfl;obtain⟨f6,c6⟩:=Aq HI.out 6 _ rfl;have z5:g5<w5.heap.size:=Bl HI.out.i;have wr0:IntKind.u32.wrap y0=y0%4294967296:=IntKind.wrap_u32 _;have wr1:IntKind.u32.wrap y1=y1%4294967296:=IntKind.wrap_u32 _;obtain⟨q0,p0,q1,p1,q2,p2,q3,p3⟩:0<n7∧(0:Int)<(n7:Int)∧1<n7∧(1:Int)<(n7:Int)∧2<n7∧(2:Int)<(n7:Int)∧3<n7∧(3:Int)<(n7:Int):=by omega
 clear h4
 conv=>arg 2;whnf
 go_wp2;rw[Vb]at hQ;apply hQ.out;exact⟨HI.out.NR (y0%4294967296)⟩
theorem XP:ER 13:=by
 intro w w5 g5 g7 n7 c7 g cur k x0 x1 x2 x3 y0 y1 HI h4 hne r0' r1' r2' r3' Q
 intros
 rename_i hQ
 replace hQ:=Az hQ;obtain⟨f0,c0⟩:=Aq HI.out 0 _ rfl;obtain⟨f6,c6⟩:=Aq HI.out 6 _ rfl;have z5:g5<w5.heap.size:=Bl HI.out.i;have wr0:IntKind.u32.wrap y0=y0%4294967296:=IntKind.wrap_u32 _;have wr1:IntKind.u32.wrap y1=y1%4294967296:=IntKind.wrap_u32 _;obtain⟨q0,p0,q1,p1,q2,p2,q3,p3⟩:0<n7∧(0:Int)<(n7:Int)∧1<n7∧(1:Int)<(n7:Int)∧2<n7∧(2:Int)<(n7:Int)∧3<n7∧(3:Int)<(n7:Int):=by omega
 clear h4
 conv=>arg 2;whnf
 go_wp2;rw[Vc]at hQ;apply hQ.out;exact⟨HI.out.NR (y0%4294967296)⟩
theorem X0(nm:Int)(hnm:nm=0∨(1≤nm∧nm≤13)∨(16≤nm∧nm≤23)):ER nm:=by
 have hc:nm=0∨nm=1∨nm=2∨nm=3∨nm=4∨nm=5∨nm=6∨nm=7∨nm=8∨nm=9∨nm=10∨nm=11∨nm=12∨nm=13∨nm=16∨nm=17∨nm=18∨nm=19∨nm=20∨nm=21∨nm=22∨nm=23:=by omega
 clear hnm;rcases hc with rfl |rfl |rfl |rfl |rfl |rfl |rfl |rfl |rfl |rfl |rfl |rfl |rfl |rfl |rfl |rfl |rfl |rfl |rfl |rfl |rfl |rfl
 ·exact YQ
 ·exact Zh
 ·exact Zi
 ·exact Zj
 ·exact Zk
 ·exact Zl
 ·exact Zm
 ·exact Zn
 ·exact Zo
 ·exact Zp
 ·exact Yi
 ·exact Yj
 ·exact XO
 ·exact XP
 ·exact Yk
 ·exact XM
 ·exact XI
 ·exact XJ
 ·exact XK
 ·exact XL
 ·exact Yl
 ·exact XN
end
end Go.Proofs.YtnmahobjmpdkdaaGreatDoor

/- Parts: ExBeg, RunAt, CellFind, ExStepKit. -/
import Derived.Test.YtjjpiefgdggghaaGreatDoorA03
import Derived.Test.YtjjpiefgdggghaaGreatDoorA33
import Derived.Test.YtjjpiefgdggghaaGreatDoorA32
set_option linter.unusedVariables false
set_option linter.unusedSimpArgs false
set_option maxRecDepth 100000
set_option maxHeartbeats 40000000
namespace Go.Proofs.YtjjpiefgdggghaaGreatDoor
section
open Go.RowKit Go.Proofs.YtjjpiefgdggghaaGreatDoorW.PrintWords
theorem H6{W:World}{N B6:Nat}{c0 c1 c2 c3 c4 c5:Value}(h6:N≤B6)(b6:W.heap[B6]?=some (.cells #[c0,c1,c2,c3,c4,c5] 135 (0,0)))(u0 u1 u2 u3 u4 u5:Value):∀ W',W'=((((((W.setCell ⟨B6,0,none⟩ u0).setCell ⟨B6,1,none⟩ u1).setCell ⟨B6,2,none⟩ u2).setCell ⟨B6,3,none⟩ u3).setCell ⟨B6,4,none⟩ u4).setCell ⟨B6,5,none⟩ u5) →
  W'.heap[B6]?=some (.cells #[u0,u1,u2,u3,u4,u5] 135 (0,0))∧BX N [135] (fun _=>False) W W'∧∀ (B:Nat) (Ts:List TypeId) (M:Nat→Prop) (a:World),BX B Ts M a W→a.heap.size≤B6→BX B Ts M a W':=by
 rintro W' rfl;have e1:(W.setCell ⟨B6,0,none⟩ u0).heap[B6]?=some (.cells #[u0,c1,c2,c3,c4,c5] 135 (0,0)):=Bs b6 0 u0;have e2:((W.setCell ⟨B6,0,none⟩ u0).setCell ⟨B6,1,none⟩ u1).heap[B6]?=some (.cells #[u0,u1,c2,c3,c4,c5] 135 (0,0)):=Bs e1 1 u1;have e3:(((W.setCell ⟨B6,0,none⟩ u0).setCell ⟨B6,1,none⟩ u1).setCell ⟨B6,2,none⟩ u2).heap[B6]?=some (.cells #[u0,u1,u2,c3,c4,c5] 135 (0,0)):=Bs e2 2 u2;have e4:((((W.setCell ⟨B6,0,none⟩ u0).setCell ⟨B6,1,none⟩ u1).setCell ⟨B6,2,none⟩ u2).setCell ⟨B6,3,none⟩ u3).heap[B6]?=some (.cells #[u0,u1,u2,u3,c4,c5] 135 (0,0)):=Bs e3 3 u3;have e5:(((((W.setCell ⟨B6,0,none⟩ u0).setCell ⟨B6,1,none⟩ u1).setCell ⟨B6,2,none⟩ u2).setCell ⟨B6,3,none⟩ u3).setCell ⟨B6,4,none⟩ u4).heap[B6]?=some (.cells #[u0,u1,u2,u3,u4,c5] 135 (0,0)):=Bs e4 4 u4;have e6:((((((W.setCell ⟨B6,0,none⟩ u0).setCell ⟨B6,1,none⟩ u1).setCell ⟨B6,2,none⟩ u2).setCell ⟨B6,3,none⟩ u3).setCell ⟨B6,4,none⟩ u4).setCell ⟨B6,5,none⟩ u5).heap[B6]?=some (.cells #[u0,u1,u2,u3,u4,u5] 135 (0,0)):=Bs e5 5 u5;refine⟨e6,?_,fun B Ts M a h h6=>?_⟩
 ·have G0:=(BX.refl N [135] (fun _=>False) W).set (p:=⟨B6,0,none⟩) b6 (by simp) h6 u0;have G1:=G0.set (p:=⟨B6,1,none⟩) e1 (by simp) h6 u1;have G2:=G1.set (p:=⟨B6,2,none⟩) e2 (by simp) h6 u2;have G3:=G2.set (p:=⟨B6,3,none⟩) e3 (by simp) h6 u3;have G4:=G3.set (p:=⟨B6,4,none⟩) e4 (by simp) h6 u4;have G5:=G4.set (p:=⟨B6,5,none⟩) e5 (by simp) h6 u5;exact G5
 ·exact((((((h.fresh (p:=⟨B6,0,none⟩) h6 u0).fresh (p:=⟨B6,1,none⟩) h6 u1).fresh (p:=⟨B6,2,none⟩) h6 u2).fresh (p:=⟨B6,3,none⟩) h6 u3).fresh (p:=⟨B6,4,none⟩) h6 u4).fresh (p:=⟨B6,5,none⟩) h6 u5)
section
variable {w W W1:World} {px:Nat} {vl vc vw vr:Value} {pl:Option Addr} {x:AF}
theorem CS.Ut(h:CS w W px vl vc vw vr pl x):W.cell? ⟨px,0,none⟩=some vl∧W.cell? ⟨px,1,none⟩=some (.int .i64 x.pg.lock)∧W.cell? ⟨px,2,none⟩=some (.int .i64 x.pg.unlock)∧W.cell? ⟨px,3,none⟩=some vc∧W.cell? ⟨px,4,none⟩=some vw∧W.cell? ⟨px,5,none⟩=some (.pointer pl)∧W.cell? ⟨px,6,none⟩=some vr:=by
 obtain⟨acc,hbx⟩:=h.bx;exact⟨(Bc hbx 0).trans rfl,(Bc hbx 1).trans rfl,(Bc hbx 2).trans rfl,(Bc hbx 3).trans rfl,(Bc hbx 4).trans rfl,(Bc hbx 5).trans rfl,(Bc hbx 6).trans rfl⟩
theorem CS.Uu{g n cap t:Nat}{y0 y1 y2 y3 y4 y5 y6 y7 y8:Value}(h:CS w W px vl vc vw (.slice (some ⟨g,0,none⟩) n cap) pl x)(ht:t<x.AG.length)(hd:(x.core t).arr=#[y0,y1,y2,y3,y4,y5,y6,y7,y8]) :
  W.cell? ⟨g,t*9,none⟩=some y0∧W.cell? ⟨g,t*9+1,none⟩=some y1∧W.cell? ⟨g,t*9+2,none⟩=some y2∧W.cell? ⟨g,t*9+3,none⟩=some y3∧W.cell? ⟨g,t*9+4,none⟩=some y4∧W.cell? ⟨g,t*9+5,none⟩=some y5∧W.cell? ⟨g,t*9+6,none⟩=some y6∧W.cell? ⟨g,t*9+7,none⟩=some y7∧W.cell? ⟨g,t*9+8,none⟩=some y8:=by
 obtain⟨g',cap',hv,_,_,hc⟩:=h.row ht;cases hv;rw[hd]at hc;exact⟨(hc 0 (by decide)).trans rfl,(hc 1 (by decide)).trans rfl,(hc 2 (by decide)).trans rfl,(hc 3 (by decide)).trans rfl,(hc 4 (by decide)).trans rfl,(hc 5 (by decide)).trans rfl,(hc 6 (by decide)).trans rfl,(hc 7 (by decide)).trans rfl,(hc 8 (by decide)).trans rfl⟩
end
theorem Rf{c:CoreM}{d0 d1 d2 d3 d4 d5 d6 d7 d8 pc:Int}(h:c.arr=#[.int .i64 d0,.int .i64 d1,.int .i64 d2,.int .i64 d3,.int .i64 d4,.int .i64 d5,.int .i64 d6,.int .i64 d7,.int .i64 d8])(hl:c.r.length=8):(c.at pc).arr=#[.int .i64 d0,.int .i64 d1,.int .i64 d2,.int .i64 d3,.int .i64 d4,.int .i64 d5,.int .i64 d6,.int .i64 d7,.int .i64 pc]:=by
 rw[←NK hl,h];rfl
theorem Hp(w W:World)(px:Nat)(vl vc vw vr:Value)(pl:Option Addr)(M:Nat→Prop)(x:AF)(t:Nat)(unlock:Bool)(h:CS w W px vl vc vw vr pl x)(ht:t<x.AG.length)(ht2:x.AG.length≤64)(hok:∀ i∈x.pg.l,GQ i)(hlen:x.pg.l.length≤64) :
  Calls Tryz.prog 74 #[.pointer (some ⟨px,0,none⟩),.int .i64 t,.int .i64 (if unlock=true then 1 else 0)] W (FT w W px vl vc vw vr pl M (x.begin t unlock)):=by
 have hco:=h.core ht;obtain⟨d0,d1,d2,d3,d4,d5,d6,d7,d8,hd⟩:=BU hco.len;obtain⟨g,cap,hv,hg,⟨cs,hcs⟩,_⟩:=h.row ht;have hrun:=fun pc W1 (hE:CS w W1 px vl vc vw vr pl x)=>Jo w W1 px vl vc vw vr pl (fun _=>False) x t ((x.core t).at pc) (-1) 0 hE ht ht2 (hco.at pc) hok hlen
 simp only[CoreM.v,Rf hd hco.len]at hrun;unfold AF.begin;obtain⟨n,hn⟩:∃ n,x.AG.length=n:=⟨_,rfl⟩
 rw[hn]at hv;subst hv;have t0:(0:Int)≤(t:Int):=by omega
 have t1:(t:Int)<(n:Int):=by omega
 obtain⟨W0,hW0⟩:∃ X,W.alloc (.cells #[.slice none 0 0,.int .i64 0,.int .i64 0,.int .i64 0,.int .i64 0,.int .i64 0] 135)=X:=⟨_,rfl⟩
 have hB0:Below W.heap.size W W0:=by rw[←hW0];exact Bw W _
 have b6:W0.heap[W.heap.size]?=some (.cells #[.slice none 0 0,.int .i64 0,.int .i64 0,.int .i64 0,.int .i64 0,.int .i64 0] 135 (0,0)):=by rw[←hW0];exact Bv W _
 have hE:=h.keep hB0;obtain⟨_,c1,c2,_,_,_,c6⟩:=hE.Ut;obtain⟨r0,r1,r2,r3,r4,r5,r6,r7,r8⟩:=hE.Uu ht hd;have c1':=Ck (Bw W0 (.cells #[.int .i64 d0,.int .i64 d1,.int .i64 d2,.int .i64 d3,.int .i64 d4,.int .i64 d5,.int .i64 d6,.int .i64 d7,.int .i64 d8] 155)) c1;have c2':=Ck (Bw W0 (.cells #[.int .i64 d0,.int .i64 d1,.int .i64 d2,.int .i64 d3,.int .i64 d4,.int .i64 d5,.int .i64 d6,.int .i64 d7,.int .i64 x.pg.lock] 155)) c2;have hrunL:=hrun x.pg.lock _ (hE.keep (Bw W0 (.cells #[.int .i64 d0,.int .i64 d1,.int .i64 d2,.int .i64 d3,.int .i64 d4,.int .i64 d5,.int .i64 d6,.int .i64 d7,.int .i64 x.pg.lock] 155)));have hrunU:=hrun x.pg.unlock _ (hE.keep (Bw W0 (.cells #[.int .i64 d0,.int .i64 d1,.int .i64 d2,.int .i64 d3,.int .i64 d4,.int .i64 d5,.int .i64 d6,.int .i64 d7,.int .i64 x.pg.unlock] 155)));have bL:=AZ b6 (.cells #[.int .i64 d0,.int .i64 d1,.int .i64 d2,.int .i64 d3,.int .i64 d4,.int .i64 d5,.int .i64 d6,.int .i64 d7,.int .i64 x.pg.lock] 155);have bU:=AZ b6 (.cells #[.int .i64 d0,.int .i64 d1,.int .i64 d2,.int .i64 d3,.int .i64 d4,.int .i64 d5,.int .i64 d6,.int .i64 d7,.int .i64 x.pg.unlock] 155);have FL:=(BX.Cj (B:=w.heap.size) (Ts:=Ia) (M:=M) hB0).then (Bw W0 (.cells #[.int .i64 d0,.int .i64 d1,.int .i64 d2,.int .i64 d3,.int .i64 d4,.int .i64 d5,.int .i64 d6,.int .i64 d7,.int .i64 x.pg.lock] 155));have FU:=(BX.Cj (B:=w.heap.size) (Ts:=Ia) (M:=M) hB0).then (Bw W0 (.cells #[.int .i64 d0,.int .i64 d1,.int .i64 d2,.int .i64 d3,.int .i64 d4,.int .i64 d5,.int .i64 d6,.int .i64 d7,.int .i64 x.pg.unlock] 155));replace hrunL:=Az hrunL;replace hrunU:=Az hrunU;replace FL:=Az FL;replace FU:=Az FU;replace bL:=Az bL;replace bU:=Az bU;have hNW:=h.b.size;replace h:=Az h;clear hrun hd hcs hE;cases unlock with
 |false =>
  simp only[Bool.false_eq_true,if_false];go_enter Tryz.func74,Tryz.ntmps74;go_wp2_with fail
  refine hrunL.out.mono ?_;rintro e w2 ⟨vm,rfl,hm,hE2,F2⟩;obtain⟨Am,cm,rfl⟩:=hm.slice;have b6':=F2.FP bL.out (by decide) (fun f=>f);have x0:w2.cell? ⟨W.heap.size,0,none⟩=some (.slice none 0 0):=(Bc b6' 0).trans rfl;have y0:=Bf b6' 0;have x1:w2.cell? ⟨W.heap.size,1,none⟩=some (.int .i64 0):=(Bc b6' 1).trans rfl;have y1:=Bf b6' 1;have x2:w2.cell? ⟨W.heap.size,2,none⟩=some (.int .i64 0):=(Bc b6' 2).trans rfl;have y2:=Bf b6' 2;have x3:w2.cell? ⟨W.heap.size,3,none⟩=some (.int .i64 0):=(Bc b6' 3).trans rfl;have y3:=Bf b6' 3;have x4:w2.cell? ⟨W.heap.size,4,none⟩=some (.int .i64 0):=(Bc b6' 4).trans rfl;have y4:=Bf b6' 4;have x5:w2.cell? ⟨W.heap.size,5,none⟩=some (.int .i64 0):=(Bc b6' 5).trans rfl;have y5:=Bf b6' 5;generalize x.go t ((x.core t).at x.pg.lock) (-1) 0=r at *;replace b6':=Az b6';go_wp2;obtain⟨W5,hW5⟩:∃ X,((((((w2.setCell ⟨W.heap.size,0,none⟩ (.slice Am r.2.marks.length cm)).setCell ⟨W.heap.size,1,none⟩ (.int .i64 r.2.done)).setCell ⟨W.heap.size,2,none⟩ (.int .i64 r.2.addr)).setCell ⟨W.heap.size,3,none⟩ (.int .i64 (r.2.wrote:Int))).setCell ⟨W.heap.size,4,none⟩ (.int .i64 (r.2.stay:Int))).setCell ⟨W.heap.size,5,none⟩ (.int .i64 r.2.e))=X:=⟨_,rfl⟩
  rw[hW5];obtain⟨c8,F5,F6⟩:=H6 (N:=w.heap.size) hNW b6'.out (.slice Am r.2.marks.length cm) (.int .i64 r.2.done) (.int .i64 r.2.addr) (.int .i64 (r.2.wrote:Int)) (.int .i64 (r.2.stay:Int)) (.int .i64 r.2.e) W5 hW5.symm;clear hW5;refine bodyPost_ret (fn:=Tryz.f74) (results_cell_row rfl _ _ W.heap.size 135 #[.slice Am r.2.marks.length cm,.int .i64 r.2.done,.int .i64 r.2.addr,.int .i64 (r.2.wrote:Int),.int .i64 (r.2.stay:Int),.int .i64 r.2.e] (0,0) _ rfl c8 Tryz.underlying135 rfl (by kernel_rfl)) rfl ⟨_,rfl,F5.own hm (by decide) (fun _ _ f=>f),hE2.frame F5 (by decide) (by decide) (by decide) (by decide),?_⟩;exact F6 _ _ _ _ (FL.out.trans (F2.K9 (fun _ f=>f.elim))) (Nl _)
 |true =>
  simp only[if_true];go_enter Tryz.func74,Tryz.ntmps74;go_wp2_with fail
  refine hrunU.out.mono ?_;rintro e w2 ⟨vm,rfl,hm,hE2,F2⟩;obtain⟨Am,cm,rfl⟩:=hm.slice;have b6':=F2.FP bU.out (by decide) (fun f=>f);have x0:w2.cell? ⟨W.heap.size,0,none⟩=some (.slice none 0 0):=(Bc b6' 0).trans rfl;have y0:=Bf b6' 0;have x1:w2.cell? ⟨W.heap.size,1,none⟩=some (.int .i64 0):=(Bc b6' 1).trans rfl;have y1:=Bf b6' 1;have x2:w2.cell? ⟨W.heap.size,2,none⟩=some (.int .i64 0):=(Bc b6' 2).trans rfl;have y2:=Bf b6' 2;have x3:w2.cell? ⟨W.heap.size,3,none⟩=some (.int .i64 0):=(Bc b6' 3).trans rfl;have y3:=Bf b6' 3;have x4:w2.cell? ⟨W.heap.size,4,none⟩=some (.int .i64 0):=(Bc b6' 4).trans rfl;have y4:=Bf b6' 4;have x5:w2.cell? ⟨W.heap.size,5,none⟩=some (.int .i64 0):=(Bc b6' 5).trans rfl;have y5:=Bf b6' 5;generalize x.go t ((x.core t).at x.pg.unlock) (-1) 0=r at *;replace b6':=Az b6';go_wp2;obtain⟨W5,hW5⟩:∃ X,((((((w2.setCell ⟨W.heap.size,0,none⟩ (.slice Am r.2.marks.length cm)).setCell ⟨W.heap.size,1,none⟩ (.int .i64 r.2.done)).setCell ⟨W.heap.size,2,none⟩ (.int .i64 r.2.addr)).setCell ⟨W.heap.size,3,none⟩ (.int .i64 (r.2.wrote:Int))).setCell ⟨W.heap.size,4,none⟩ (.int .i64 (r.2.stay:Int))).setCell ⟨W.heap.size,5,none⟩ (.int .i64 r.2.e))=X:=⟨_,rfl⟩
  rw[hW5];obtain⟨c8,F5,F6⟩:=H6 (N:=w.heap.size) hNW b6'.out (.slice Am r.2.marks.length cm) (.int .i64 r.2.done) (.int .i64 r.2.addr) (.int .i64 (r.2.wrote:Int)) (.int .i64 (r.2.stay:Int)) (.int .i64 r.2.e) W5 hW5.symm;clear hW5;refine bodyPost_ret (fn:=Tryz.f74) (results_cell_row rfl _ _ W.heap.size 135 #[.slice Am r.2.marks.length cm,.int .i64 r.2.done,.int .i64 r.2.addr,.int .i64 (r.2.wrote:Int),.int .i64 (r.2.stay:Int),.int .i64 r.2.e] (0,0) _ rfl c8 Tryz.underlying135 rfl (by kernel_rfl)) rfl ⟨_,rfl,F5.own hm (by decide) (fun _ _ f=>f),hE2.frame F5 (by decide) (by decide) (by decide) (by decide),?_⟩;exact F6 _ _ _ _ (FU.out.trans (F2.K9 (fun _ f=>f.elim))) (Nl _)
theorem S5:(Tryz.prog.info? 97).map (fun i=>(i.zero,i.size,i.bytes))=some (some (.agg #[.int .i64 0,.int .i64 0,.int .i64 0]),3,24):=by kernel_rfl
def Dy:List D5→List Value
 |[]=>[]
 |p::L=>.int .i64 (p.1:Int)::.int .i64 (p.2:Int)::.int .i64 0::Dy L
theorem GI:∀ (L:List D5) (p:D5),Dy (L++[p])=Dy L++[.int .i64 (p.1:Int),.int .i64 (p.2:Int),.int .i64 0]
 |[],p=>rfl
 |q::L,p=>by simp[Dy,GI L p]
def Eo(W:World)(N:Nat)(v:Value)(L:List D5):Prop:=W.ownsRow N 97 3 v L.length (Dy L)
def BL(W:World)(N:Nat)(v:Value)(L:List Nat):Prop:=W.ownsRow N 3 1 v L.length (L.map fun x:Nat=>Value.int .i64 x)
def Qw(b:Bool):Int:=if b=true then 1 else 0
structure C5 (w W:World) (pr px:Nat) (vl vc vw vr:Value) (pl:Option Addr) (vd ve:Value) (r:AH):Prop where
 x:CS w W px vl vc vw vr pl r.x
 HX:w.heap.size≤pr
 br:W.heap[pr]?=some (.cells #[.pointer (some ⟨px,0,none⟩),vd,ve,.int .i64 (Qw r.bad)] 90 (0,0))
 act:BL W w.heap.size vd r.act
 l:Eo W w.heap.size ve r.l
section
variable {ops:Array Oper} {rest:List Oper} {o:Oper} {a:Act} {Q:Exit→Act→World→Prop} {W:World}
theorem Um(hgd:o.guard=none)(s x:Operand)(ho:o.op=.call {callee:=.builtin .append,args:=#[s,x],argTypes:=#[88,88]})
  (base g:Nat)(y:D5)(v:Value)(xs:List D5)(hs:a.eval s=v)(hr:Eo W base v xs)(hx:a.eval x=.slice (some ⟨g,0,none⟩) 1 1)
  (hy:W.heap[g]?=some (.cells #[.int .i64 (y.1:Int),.int .i64 (y.2:Int),.int .i64 0] 97 (0,0)))(hl:xs.length≤100000000)(hb:base≤W.heap.size)
  (h:∀ v' W1,Eo W1 base v' (xs++[y])→W.grownBy W1 v.ownBlock→wpList Tryz.prog ops Q rest (a.put o.dst v') W1) :
  wpList Tryz.prog ops Q (o::rest) a W:=by
 obtain⟨i9,hi,hz0,hz1,hz2⟩:=info_parts S5;refine wpList_append_own_at _ hgd s x 88 ho base 97 i9 (.agg #[.int .i64 0,.int .i64 0,.int .i64 0]) 3 24 Tryz.underlying88 hi hz0 hz1 hz2 rfl (by decide) v xs.length (Dy xs) hs hr ⟨g,0,none⟩ 1 1 [.int .i64 (y.1:Int),.int .i64 (y.2:Int),.int .i64 0] hx rfl ?_ ?_ ?_ ?_ hb ?_
 ·intro j u hj;rw[add_plain];exact(Bc hy j).trans (by simpa using hj)
 ·intro u hu;simp at hu;rcases hu with rfl |rfl |rfl<;>rfl
 ·simp[maxLen];omega
 ·omega
 ·intro v' W1 h1 h2 _ h4;refine h v' W1 ?_ h2;unfold Eo;rw[GI,List.length_append];exact h1
end
theorem E9(w W:World)(pr px:Nat)(vl vc vw vr:Value)(pl:Option Addr)(vd ve:Value)(r:AH)(k t:Nat)(h:C5 w W pr px vl vc vw vr pl vd ve r)(hl:r.l.length≤95000000) :
  Calls Tryz.prog 72 #[.pointer (some ⟨pr,0,none⟩),.int .i64 k,.int .i64 t] W fun e W'=>e=.returned (.tuple #[])∧∃ ve',C5 w W' pr px vl vc vw vr pl vd ve' {r with l:=r.l++[(k,t)]}∧BX w.heap.size [90,97] (fun _=>False) W W':=by
 have c2:W.cell? ⟨pr,2,none⟩=some ve:=(Bc h.br 2).trans rfl;have hNW:=h.x.hz;have hb0:=Bw W (.cells #[.int .i64 (k:Int),.int .i64 (t:Int),.int .i64 0] 97);have hl0:Eo (W.alloc (.cells #[.int .i64 (k:Int),.int .i64 (t:Int),.int .i64 0] 97)) w.heap.size ve r.l:=Om h.l (fun k hk=>hb0.block k (Ol h.l k hk));have hx0:=h.x.keep hb0;have ha0:BL (W.alloc (.cells #[.int .i64 (k:Int),.int .i64 (t:Int),.int .i64 0] 97)) w.heap.size vd r.act:=Om h.act (fun k hk=>hb0.block k (Ol h.act k hk));have hbr0:=Bk hb0 h.br;have HX:=h.HX;clear h;replace hl0:=Az hl0;replace hx0:=Az hx0;replace ha0:=Az ha0;replace hbr0:=Az hbr0;replace hb0:=Az hb0;go_enter Tryz.func72,Tryz.ntmps72;go_wp2_with (at_builtin;refine Um rfl (.tmp 10) (.tmp 14) rfl w.heap.size W.heap.size (k,t) ve r.l rfl hl0.out rfl (Bv _ _) ?hl3 ?hb3 ?_)
 case hl3=>omega
 case hb3=>simp;omega
 rintro v3 W3 hr3 hg3;have hbr3:=Bg hbr0.out hg3 (Oa hl0.out hbr0.out (by decide));have c3:W3.cell? ⟨pr,2,none⟩=some ve:=(Bc hbr3 2).trans rfl;have f3:=Bf hbr3 2;have F3:=((BX.refl w.heap.size [90,97] (fun _=>False) W).then hb0.out).grown hl0.out (by simp) hg3;have F4:=F3.set (p:=⟨pr,2,none⟩) hbr3 (by simp) HX v3;have G3:=(BX.refl w.heap.size [90,97] (fun _=>False) (W.alloc (.cells #[.int .i64 (k:Int),.int .i64 (t:Int),.int .i64 0] 97))).grown hl0.out (by simp) hg3;have G4:=G3.set (p:=⟨pr,2,none⟩) hbr3 (by simp) HX v3;have hx4:=hx0.out.frame G4 (by decide) (by decide) (by decide) (by decide);have ha4:BL _ w.heap.size vd r.act:=G4.own ha0.out (by decide) (fun _ _ f=>f);have hbr4:=Bs hbr3 2 v3;have hr4:Eo _ w.heap.size v3 (r.l++[(k,t)]):=Rs hr3 hbr3 (by decide) 2 v3;have hv3:=AV hr3;obtain⟨A3,n3,c3',rfl⟩:=hv3;replace F4:=Az F4;replace hx4:=Az hx4;replace ha4:=Az ha4;replace hbr4:=Az hbr4;replace hr4:=Az hr4;clear hr3 hg3 hbr3 F3 G3 G4;go_wp2;exact bodyPost_end (fn:=Tryz.f72) (v:=.tuple #[]) (results_none rfl _ _ _) rfl ⟨rfl,_,⟨hx4.out,HX,hbr4.out,ha4.out,hr4.out⟩,F4.out⟩
theorem Hv:∀ (L:List (Nat×Nat)) (k:Nat) (hk:k<L.length),(D6 L)[k*2]?=some (.int .i64 ((L[k]).1:Int))∧(D6 L)[k*2+1]?=some (.int .i64 ((L[k]).2:Int))
 |p::L,0,_=>⟨rfl,rfl⟩
 |p::L,k+1,hk=>by
  have:=Hv L k (by simpa using hk);rw[show(k+1)*2=k*2+1+1 by omega]
  simpa [D6]using this
def KC(o:Option Nat):Int:=match o with
 |none => -1
 |some k=>k
theorem Mz(v:Value)(L:List (Nat×Nat))(a:Int)(z:Nat)(base:Nat)(W:World)(h:CP W base v L)(hl:L.length≤1000000)(hz:z<4294967296) :
  Calls Tryz.prog 105 #[v,.int .i64 a,.int .u32 (z:Int)] W fun e W'=>e=.returned (.int .i64 (KC (Dc a (z%4096) 0 L)))∧Below W.heap.size W W':=by
 obtain⟨fin,hf⟩:∃ r,KC (Dc a (z%4096) 0 L)=r:=⟨_,rfl⟩
 rw[hf];obtain⟨A,m,c,rfl⟩:=AV h;obtain⟨k0,hk0⟩:∃ k,L.length=k:=⟨_,rfl⟩
 have hm:m=k0:=by
  rcases h.2 with ⟨e,h0⟩ |⟨g,cap,cur,e,_⟩
  ·injection e with e1 e2 e3;omega
  ·injection e with e1 e2 e3;omega
 subst hm;have hw:IntKind.i64.wrap (z:Int)=(z:Int):=by rw[IntKind.wrap_i64];omega
 replace hf:=Az hf;replace h:=Az h;replace hk0:=Az hk0;have hl':m≤1000000:=by rw[←hk0.out];exact hl
 clear hl;go_enter Tryz.func105,Tryz.ntmps105;go_wp2_with fail
 go_loopw [11] (fun v11 wr=>∃ k:Nat,v11=.int .i64 k∧k≤m∧Ag (KC (Dc a (z%4096) k (L.drop k))=fin)∧Ag (Below W.heap.size W wr)) (fun v11 _=>m-(intOf v11).toNat)
 case atStart=>exact⟨0,rfl,Nat.zero_le _,⟨by simpa using hf.out⟩,⟨Below.refl _ _⟩⟩
 case round =>
  obtain⟨k,rfl,hk,hF,hB⟩:=hrel;by_cases hlt:k<m
  ·have hkx:k<L.length:=by rw[hk0.out];exact hlt
   obtain⟨g,c',hv,hc,hg,_,hcell⟩:=Cw (Om h.out (fun k hk=>hB.out.block k (Ol h.out k hk))) (by omega);obtain⟨rfl,rfl⟩:A=some ⟨g,0,none⟩∧c=c':=by injection hv with h1 h2 h3;exact⟨h1,h3⟩
   obtain⟨e1,e2⟩:=Hv L k hkx;have c1:=hcell _ _ e1;have c2:=hcell _ _ e2;have hstep:=hF.out;rw[List.drop_eq_getElem_cons hkx,Dc]at hstep;generalize L[k].1=ar at c1 hstep;generalize L[k].2=pl at c2 hstep;have hk0':(0:Int)≤(k:Int):=by omega
   have hk1:(k:Int)<(m:Int):=by omega
   have hkw:IntKind.i64.wrap ((k:Int)+1)=(k:Int)+1:=by rw[IntKind.wrap_i64];omega
   clear hcell hv e1 e2 hF;have hb3:=hB.out.size;replace hB:=Az (fun o=>hB.out.alloc hb3 o);clear hb3;by_cases ha:(ar:Int)=a
   ·have hq:((ar:Int)==a)=true:=beq_iff_eq.2 ha;by_cases hp:pl=z%4096
    ·have hp':((pl:Int)==(z:Int)%4096)=true:=beq_iff_eq.2 (by omega);rw[if_pos ⟨ha,hp⟩]at hstep;have hfin:fin=(k:Int):=hstep.symm;subst hfin;clear hstep;go_wp2;go_ret;exact⟨rfl,hB.out _⟩
    ·have hp':((pl:Int)==(z:Int)%4096)=false:=Bq (by omega);rw[if_neg (fun h=>hp h.2)]at hstep;replace hstep:=Az hstep;go_wp2;go_roundw
     case rel=>exact⟨k+1,by go_num,hlt,hstep,⟨hB.out _⟩⟩
     case measure=>simp[intOf];omega
   ·have hq:((ar:Int)==a)=false:=Bq ha;rw[if_neg (fun h=>ha h.1)]at hstep;replace hstep:=Az hstep;go_wp2;go_roundw
    case rel=>exact⟨k+1,by go_num,hlt,hstep,⟨hB.out _⟩⟩
    case measure=>simp[intOf];omega
  ·obtain rfl:k=m:=by omega
   have hge:¬(k:Int)<(k:Int):=by omega
   have hfin:fin = -1:=by rw[←hF.out,List.drop_eq_nil_of_le (by rw[hk0.out];exact Nl _)];rfl
   subst hfin;go_wp2;go_ret;exact⟨rfl,hB.out⟩
theorem IU{W:World}{g:Nat}{t:TypeId}{y0 y1 y2 y3 y4 y5:Value}(b:W.heap[g]?=some (.cells #[y0,y1,y2,y3,y4,y5] t (0,0))) :
  W.cell? ⟨g,0,none⟩=some y0∧W.cell? ⟨g,1,none⟩=some y1∧W.cell? ⟨g,2,none⟩=some y2∧W.cell? ⟨g,3,none⟩=some y3∧W.cell? ⟨g,4,none⟩=some y4∧W.cell? ⟨g,5,none⟩=some y5 :=
 ⟨(Bc b 0).trans rfl,(Bc b 1).trans rfl,(Bc b 2).trans rfl,(Bc b 3).trans rfl,(Bc b 4).trans rfl,(Bc b 5).trans rfl⟩
theorem Od{W:World}{g:Nat}{t:TypeId}{cs:Array Value}(b:W.heap[g]?=some (.cells cs t (0,0))) :
  W.frozen? ⟨g,0,none⟩=false∧W.frozen? ⟨g,1,none⟩=false∧W.frozen? ⟨g,2,none⟩=false∧W.frozen? ⟨g,3,none⟩=false∧W.frozen? ⟨g,4,none⟩=false∧W.frozen? ⟨g,5,none⟩=false :=
 ⟨Bf b 0,Bf b 1,Bf b 2,Bf b 3,Bf b 4,Bf b 5⟩
theorem Tl{W W1:World}{px N7 gc p:Nat}{v0 v1 y0 y1 y2 y3 y4 y5 y6 y7:Value}(hb:Below W.heap.size W W1)(h:W.cell? ⟨px,0,none⟩=some v0∧W.cell? ⟨N7,8,none⟩=some v1∧W.cell? ⟨gc,p*8,none⟩=some y0∧W.cell? ⟨gc,p*8+1,none⟩=some y1∧W.cell? ⟨gc,p*8+2,none⟩=some y2∧W.cell? ⟨gc,p*8+3,none⟩=some y3∧W.cell? ⟨gc,p*8+4,none⟩=some y4∧W.cell? ⟨gc,p*8+5,none⟩=some y5∧W.cell? ⟨gc,p*8+6,none⟩=some y6∧W.cell? ⟨gc,p*8+7,none⟩=some y7) :
  W1.cell? ⟨px,0,none⟩=some v0∧W1.cell? ⟨N7,8,none⟩=some v1∧W1.cell? ⟨gc,p*8,none⟩=some y0∧W1.cell? ⟨gc,p*8+1,none⟩=some y1∧W1.cell? ⟨gc,p*8+2,none⟩=some y2∧W1.cell? ⟨gc,p*8+3,none⟩=some y3∧W1.cell? ⟨gc,p*8+4,none⟩=some y4∧W1.cell? ⟨gc,p*8+5,none⟩=some y5∧W1.cell? ⟨gc,p*8+6,none⟩=some y6∧W1.cell? ⟨gc,p*8+7,none⟩=some y7:=by
 obtain⟨h0,h1,h2,h3,h4,h5,h6,h7,h8,h9⟩:=h;exact⟨Ck hb h0,Ck hb h1,Ck hb h2,Ck hb h3,Ck hb h4,Ck hb h5,Ck hb h6,Ck hb h7,Ck hb h8,Ck hb h9⟩
def TZ:Array Value:=#[.slice none 0 0,.int .i64 0,.int .i64 0,.int .i64 0,.int .i64 0,.int .i64 0]
def VD:Array Value:=#[.slice none 0 0,.int .i64 (-1),.int .i64 (-1),.int .i64 0,.int .i64 0,.int .i64 11]
structure II (w Wb W:World) (px:Nat) (vl vc vw vr:Value) (pl:Option Addr) (x:AF) (cc:CoreM) (N6 N7 N8:Nat):Prop where
 e:CS w W px vl vc vw vr pl x
 f:BX w.heap.size Ia (fun _=>False) Wb W
 h6:Wb.heap.size≤N6
 h7:Wb.heap.size≤N7
 h9:∀ k,vr.ownBlock=some k→k≠N7
 b6:W.heap[N6]?=some (.cells TZ 135 (0,0))
 b7:W.heap[N7]?=some (.cells cc.arr 155 (0,0))
 b8:W.heap[N8]?=some (.cells VD 135 (0,0))
 c:cc.ok
section
variable {w Wb W W1:World} {px N6 N7 N8:Nat} {vl vc vw vr:Value} {pl:Option Addr} {x:AF} {cc:CoreM}
theorem II.keep(h:II w Wb W px vl vc vw vr pl x cc N6 N7 N8)(hb:Below W.heap.size W W1):II w Wb W1 px vl vc vw vr pl x cc N6 N7 N8 :=
 ⟨h.e.keep hb,h.f.then hb,h.h6,h.h7,h.h9,Bk hb h.b6,Bk hb h.b7,Bk hb h.b8,h.c⟩
end
theorem U6{w Wb W:World}{px N6 N7 N8 G9:Nat}{vl vc vw vr y1 y2:Value}{pl:Option Addr}{x:AF}{cc:CoreM}(h:Ag (II w Wb W px vl vc vw vr pl x cc N6 N7 N8)∧W.cell? ⟨px,3,none⟩=some y1∧W.cell? ⟨G9,5,none⟩=some y2):CP W w.heap.size vc x.cells:=h.1.out.e.cells
theorem II.out{w Wb W:World}{px N6 N7 N8:Nat}{vl vc vw vr:Value}{pl:Option Addr}{x:AF}{cc:CoreM}(h:II w Wb W px vl vc vw vr pl x cc N6 N7 N8)(hN:w.heap.size≤Wb.heap.size)(M:Nat→Prop)(o:DR)(A:Option Addr)(c:Nat)(hm:AS W w.heap.size (.slice A o.marks.length c) o.marks)(a:Act)(hd:a.defers=[])
  (h6:a.tmps.getD 6 undef=.pointer (some ⟨N6,0,none⟩)):∀ W',W'=(((((W.setCell ⟨N6,0,none⟩ (.slice A o.marks.length c)).setCell ⟨N6,1,none⟩ (.int .i64 o.done)).setCell ⟨N6,2,none⟩ (.int .i64 o.addr)).setCell ⟨N6,3,none⟩ (.int .i64 (o.wrote:Int))).setCell ⟨N6,4,none⟩ (.int .i64 (o.stay:Int))).setCell ⟨N6,5,none⟩ (.int .i64 o.e) →
  bodyPost Tryz.prog Tryz.f75 (FT w Wb px vl vc vw vr pl M (x,o)) .ret a W'∧bodyPost Tryz.prog Tryz.f75 (FT w Wb px vl vc vw vr pl M (x,o)) .ret a W'.drew:=by
 intro W' hW;obtain⟨c8,F5,F6⟩:=H6 (N:=w.heap.size) (Nat.le_trans hN h.h6) h.b6 _ _ _ _ _ _ W' hW;have FW:=F6 _ _ _ _ (h.f.K9 (M':=M) (fun _ f=>f.elim)) h.h6;have hE:=h.e.frame F5 (by decide) (by decide) (by decide) (by decide);exact⟨bodyPost_ret (results_cell_row rfl _ _ N6 135 #[.slice A o.marks.length c,.int .i64 o.done,.int .i64 o.addr,.int .i64 (o.wrote:Int),.int .i64 (o.stay:Int),.int .i64 o.e] (0,0) _ h6 c8 Tryz.underlying135 rfl (by kernel_rfl)) hd ⟨_,rfl,F5.own hm (by decide) (fun _ _ f=>f),hE,FW⟩,
  bodyPost_ret (results_cell_row rfl _ _ N6 135 #[.slice A o.marks.length c,.int .i64 o.done,.int .i64 o.addr,.int .i64 (o.wrote:Int),.int .i64 (o.stay:Int),.int .i64 o.e] (0,0) _ h6 (Be c8) Tryz.underlying135 rfl (by kernel_rfl)) hd ⟨_,rfl,F5.own hm (by decide) (fun _ _ f=>f),hE.keep (Bd (Below.refl _ _)),FW.drew⟩⟩
theorem MR{a:Int}{p:Nat}:∀ (L:List (Nat×Nat)) (k j:Nat),Dc a p k L=some j→k≤j∧j<k+L.length
 |[],k,j,h=>by simp[Dc]at h
 |c::L,k,j,h=>by
  unfold Dc at h;by_cases hc:(c.1:Int)=a∧c.2=p
  ·rw[if_pos hc]at h;obtain rfl:=Option.some.inj h;exact⟨Nl _,by simp⟩
  ·rw[if_neg hc]at h;obtain⟨h1,h2⟩:=MR L (k+1) j h;exact⟨by omega,by simp;omega⟩
section
variable {w Wb W:World} {px N6 N7 N8:Nat} {vl vc vw vr:Value} {pl:Option Addr} {x:AF} {cc:CoreM}
theorem II.acc(h:II w Wb W px vl vc vw vr pl x cc N6 N7 N8)(y:Int):∀ W',W'=W.setCell ⟨px,7,none⟩ (.int .i64 y) →
  II w Wb W' px vl vc vw vr pl x cc N6 N7 N8∧W'.heap.size=W.heap.size∧∀ (g:Nat) (cs:Array Value) (T:TypeId),W.heap[g]?=some (.cells cs T (0,0))→T≠94→W'.heap[g]?=some (.cells cs T (0,0)):=by
 rintro W' rfl;obtain⟨acc,hbx⟩:=h.e.bx;have far:∀ (g:Nat) (cs:Array Value) (T:TypeId),W.heap[g]?=some (.cells cs T (0,0))→T≠94→(W.setCell ⟨px,7,none⟩ (.int .i64 y)).heap[g]?=some (.cells cs T (0,0)):=fun g cs T hg hT=>Ba hg (p:=⟨px,7,none⟩) (C0 hg hbx hT) _
 have F:BX w.heap.size [94] (fun _=>False) W (W.setCell ⟨px,7,none⟩ (.int .i64 y)):=(BX.refl _ _ _ W).set (p:=⟨px,7,none⟩) hbx (by simp) h.e.Ko _;have hbx':=Bs hbx 7 (.int .i64 y);exact⟨⟨⟨h.e.b.trans (F.below h.e.hz),h.e.Ko,⟨y,hbx'⟩,h.e.code,F.own h.e.cells (by decide) (fun _ _ f=>f),F.own h.e.words (by decide) (fun _ _ f=>f),F.own h.e.AG (by decide) (fun _ _ f=>f),h.e.ok,h.e.Sl⟩,
  h.f.trans (F.mono (by simp[Ia])),h.h6,h.h7,h.h9,far _ _ _ h.b6 (by decide),far _ _ _ h.b7 (by decide),far _ _ _ h.b8 (by decide),h.c⟩,by simp[World.setCell],far⟩
theorem II.L1(h:II w Wb W px vl vc vw vr pl x cc N6 N7 N8)(hN:w.heap.size≤Wb.heap.size){d:Nat}(hd:d<8){v:Nat}(hv:v<4294967296):∀ W',W'=W.setCell ⟨N7,d,none⟩ (.int .i64 v) →
  II w Wb W' px vl vc vw vr pl x (cc.set d v) N6 N7 N8∧W'.heap.size=W.heap.size∧∀ (g:Nat) (cs:Array Value) (T:TypeId),W.heap[g]?=some (.cells cs T (0,0))→T≠155→W'.heap[g]?=some (.cells cs T (0,0)):=by
 rintro W' rfl;have far:∀ (g:Nat) (cs:Array Value) (T:TypeId),W.heap[g]?=some (.cells cs T (0,0))→T≠155→(W.setCell ⟨N7,d,none⟩ (.int .i64 v)).heap[g]?=some (.cells cs T (0,0)):=fun g cs T hg hT=>Ba hg (p:=⟨N7,d,none⟩) (C0 hg h.b7 hT) _
 have hm:∀ k:Nat,k≠N7→(W.setCell ⟨N7,d,none⟩ (.int .i64 v)).heap[k]?=W.heap[k]?:=fun k hk=>Below.heap_setCell _ ⟨N7,d,none⟩ _ k hk
 obtain⟨acc,hbx⟩:=h.e.bx;have hb7:=Bs h.b7 d (.int .i64 v);rw[OL h.c.len d hd v]at hb7;exact⟨⟨⟨h.e.b.setCell (p:=⟨N7,d,none⟩) (Nat.le_trans hN h.h7) _,h.e.Ko,⟨acc,far _ _ _ hbx (by decide)⟩,h.e.code,Om h.e.cells (fun k hk=>hm k (fun e=>Oa h.e.cells h.b7 (by decide) (by rw[hk,e]))),Om h.e.words (fun k hk=>hm k (fun e=>Oa h.e.words h.b7 (by decide) (by rw[hk,e]))),Om h.e.AG (fun k hk=>hm k (h.h9 k hk)),h.e.ok,h.e.Sl⟩,
  h.f.set (p:=⟨N7,d,none⟩) h.b7 (by decide) (Nat.le_trans hN h.h7) _,h.h6,h.h7,h.h9,far _ _ _ h.b6 (by decide),hb7,far _ _ _ h.b8 (by decide),h.c.set d hv⟩,by simp[World.setCell],far⟩
theorem II.V8(h:II w Wb W px vl vc vw vr pl x cc N6 N7 N8)(hN:w.heap.size≤Wb.heap.size)(v:Int):∀ W',W'=W.setCell ⟨N7,8,none⟩ (.int .i64 v) →
  II w Wb W' px vl vc vw vr pl x (cc.at v) N6 N7 N8∧W'.heap.size=W.heap.size∧∀ (g:Nat) (cs:Array Value) (T:TypeId),W.heap[g]?=some (.cells cs T (0,0))→T≠155→W'.heap[g]?=some (.cells cs T (0,0)):=by
 rintro W' rfl;have far:∀ (g:Nat) (cs:Array Value) (T:TypeId),W.heap[g]?=some (.cells cs T (0,0))→T≠155→(W.setCell ⟨N7,8,none⟩ (.int .i64 v)).heap[g]?=some (.cells cs T (0,0)):=fun g cs T hg hT=>Ba hg (p:=⟨N7,8,none⟩) (C0 hg h.b7 hT) _
 have hm:∀ k:Nat,k≠N7→(W.setCell ⟨N7,8,none⟩ (.int .i64 v)).heap[k]?=W.heap[k]?:=fun k hk=>Below.heap_setCell _ ⟨N7,8,none⟩ _ k hk
 obtain⟨acc,hbx⟩:=h.e.bx;have hb7:=Bs h.b7 8 (.int .i64 v);rw[NK h.c.len v]at hb7;exact⟨⟨⟨h.e.b.setCell (p:=⟨N7,8,none⟩) (Nat.le_trans hN h.h7) _,h.e.Ko,⟨acc,far _ _ _ hbx (by decide)⟩,h.e.code,Om h.e.cells (fun k hk=>hm k (fun e=>Oa h.e.cells h.b7 (by decide) (by rw[hk,e]))),Om h.e.words (fun k hk=>hm k (fun e=>Oa h.e.words h.b7 (by decide) (by rw[hk,e]))),Om h.e.AG (fun k hk=>hm k (h.h9 k hk)),h.e.ok,h.e.Sl⟩,
  h.f.set (p:=⟨N7,8,none⟩) h.b7 (by decide) (Nat.le_trans hN h.h7) _,h.h6,h.h7,h.h9,far _ _ _ h.b6 (by decide),hb7,far _ _ _ h.b8 (by decide),h.c.at v⟩,by simp[World.setCell],far⟩
theorem II.PS{gw nw cw:Nat}(h:II w Wb W px vl vc (.slice (some ⟨gw,0,none⟩) nw cw) vr pl x cc N6 N7 N8){aa:Nat}(haa:aa<x.words.length){v:Nat}(hv:v<4294967296):∀ W',W'=W.setCell ⟨gw,aa,none⟩ (.int .u32 v) →
  II w Wb W' px vl vc (.slice (some ⟨gw,0,none⟩) nw cw) vr pl {x with words:=x.words.set aa v} cc N6 N7 N8∧W'.heap.size=W.heap.size∧∀ (g:Nat) (cs:Array Value) (T:TypeId),W.heap[g]?=some (.cells cs T (0,0))→T≠45→W'.heap[g]?=some (.cells cs T (0,0)):=by
 rintro W' rfl;have hw:=h.e.words;unfold DP at hw;obtain⟨g',c',hv2,hc2,hg',⟨cs,hcs,hsz⟩,_⟩:=Cw hw (by omega);obtain⟨rfl,rfl,rfl⟩:gw=g'∧nw=x.words.length∧cw=c':=by cases hv2;exact⟨rfl,rfl,rfl⟩
 have far:∀ (g:Nat) (cs':Array Value) (T:TypeId),W.heap[g]?=some (.cells cs' T (0,0))→T≠45→(W.setCell ⟨gw,aa,none⟩ (.int .u32 v)).heap[g]?=some (.cells cs' T (0,0)):=fun g cs' T hg hT=>Ba hg (p:=⟨gw,aa,none⟩) (C0 hg hcs hT) _
 have hm:∀ k:Nat,k≠gw→(W.setCell ⟨gw,aa,none⟩ (.int .u32 v)).heap[k]?=W.heap[k]?:=fun k hk=>Below.heap_setCell _ ⟨gw,aa,none⟩ _ k hk
 obtain⟨acc,hbx⟩:=h.e.bx;have hp:=Dk hw aa (by omega) (.int .u32 v);refine⟨⟨⟨h.e.b.setCell (p:=⟨gw,aa,none⟩) hg' _,h.e.Ko,⟨acc,far _ _ _ hbx (by decide)⟩,h.e.code,Om h.e.cells (fun k hk=>hm k (fun e=>Oa h.e.cells hcs (by decide) (by rw[hk,e]))),?_,Om h.e.AG (fun k hk=>hm k (fun e=>Oa h.e.AG hcs (by decide) (by rw[hk,e]))),h.e.ok,?_⟩,
  h.f.set (p:=⟨gw,aa,none⟩) hcs (by decide) hg' _,h.h6,h.h7,h.h9,far _ _ _ h.b6 (by decide),far _ _ _ h.b7 (by decide),far _ _ _ h.b8 (by decide),h.c⟩,by simp[World.setCell],far⟩
 ·unfold DP;simp only[List.length_set,List.map_set];exact hp
 ·intro y hy;rcases List.mem_or_eq_of_mem_set hy with h' |rfl
  ·exact h.e.Sl y h'
  ·exact hv
theorem II.Th{G k:Nat}{cs:Array Value}(h:II w Wb W px vl vc vw vr pl x cc N6 N7 N8)(hb:W.heap[G]?=some (.cells cs 135 (0,0)))(hG:Wb.heap.size≤G)(hN:w.heap.size≤Wb.heap.size)(h6:N6≠G)(h8:N8≠G)(v:Value):∀ W',W'=W.setCell ⟨G,k,none⟩ v →
  II w Wb W' px vl vc vw vr pl x cc N6 N7 N8∧W'.heap.size=W.heap.size∧(∀ (g:Nat) (cs:Array Value) (T:TypeId),W.heap[g]?=some (.cells cs T (0,0))→T≠135→W'.heap[g]?=some (.cells cs T (0,0)))∧W'.heap[G]?=some (.cells (cs.setIfInBounds k v) 135 (0,0)):=by
 rintro W' rfl;have far:∀ (g:Nat) (cs:Array Value) (T:TypeId),W.heap[g]?=some (.cells cs T (0,0))→T≠135→(W.setCell ⟨G,k,none⟩ v).heap[g]?=some (.cells cs T (0,0)):=fun g cs T hg hT=>Ba hg (p:=⟨G,k,none⟩) (C0 hg hb hT) _
 have F:BX w.heap.size [135] (fun _=>False) W (W.setCell ⟨G,k,none⟩ v):=(BX.refl _ _ _ W).set (p:=⟨G,k,none⟩) hb (by simp) (Nat.le_trans hN hG) v;exact⟨⟨h.e.frame F (by decide) (by decide) (by decide) (by decide),h.f.fresh (p:=⟨G,k,none⟩) hG v,h.h6,h.h7,h.h9,Ba h.b6 (p:=⟨G,k,none⟩) h6 _,far _ _ _ h.b7 (by decide),Ba h.b8 (p:=⟨G,k,none⟩) h8 _,h.c⟩,by simp[World.setCell],far,Bs hb k v⟩
end
theorem R8{W:World}{N G B6:Nat}{a0 a1 a2 a3 a4 a5 c0 c1 c2 c3 c4 c5:Value}(hG:N≤G)(h6:N≤B6)(hne:B6≠G)(b17:W.heap[G]?=some (.cells #[a0,a1,a2,a3,a4,a5] 135 (0,0)))(b6:W.heap[B6]?=some (.cells #[c0,c1,c2,c3,c4,c5] 135 (0,0)))
  (v4 v1 u0 u1 u2 u3 u4 u5:Value):∀ W',W'=((((((((W.setCell ⟨G,4,none⟩ v4).setCell ⟨G,1,none⟩ v1).setCell ⟨B6,0,none⟩ u0).setCell ⟨B6,1,none⟩ u1).setCell ⟨B6,2,none⟩ u2).setCell ⟨B6,3,none⟩ u3).setCell ⟨B6,4,none⟩ u4).setCell ⟨B6,5,none⟩ u5)→W'.heap[B6]?=some (.cells #[u0,u1,u2,u3,u4,u5] 135 (0,0))∧BX N [135] (fun _=>False) W W' ∧
   ∀ (B:Nat) (Ts:List TypeId) (M:Nat→Prop) (a:World),BX B Ts M a W→a.heap.size≤G→a.heap.size≤B6→BX B Ts M a W':=by
 rintro W' rfl;have d1:(W.setCell ⟨G,4,none⟩ v4).heap[G]?=some (.cells #[a0,a1,a2,a3,v4,a5] 135 (0,0)):=Bs b17 4 v4;have e0:((W.setCell ⟨G,4,none⟩ v4).setCell ⟨G,1,none⟩ v1).heap[B6]?=some (.cells #[c0,c1,c2,c3,c4,c5] 135 (0,0)):=Ba (Ba b6 (p:=⟨G,4,none⟩) hne v4) (p:=⟨G,1,none⟩) hne v1;have e1:(((W.setCell ⟨G,4,none⟩ v4).setCell ⟨G,1,none⟩ v1).setCell ⟨B6,0,none⟩ u0).heap[B6]?=some (.cells #[u0,c1,c2,c3,c4,c5] 135 (0,0)):=Bs e0 0 u0;have e2:((((W.setCell ⟨G,4,none⟩ v4).setCell ⟨G,1,none⟩ v1).setCell ⟨B6,0,none⟩ u0).setCell ⟨B6,1,none⟩ u1).heap[B6]?=some (.cells #[u0,u1,c2,c3,c4,c5] 135 (0,0)):=Bs e1 1 u1;have e3:(((((W.setCell ⟨G,4,none⟩ v4).setCell ⟨G,1,none⟩ v1).setCell ⟨B6,0,none⟩ u0).setCell ⟨B6,1,none⟩ u1).setCell ⟨B6,2,none⟩ u2).heap[B6]?=some (.cells #[u0,u1,u2,c3,c4,c5] 135 (0,0)):=Bs e2 2 u2;have e4:((((((W.setCell ⟨G,4,none⟩ v4).setCell ⟨G,1,none⟩ v1).setCell ⟨B6,0,none⟩ u0).setCell ⟨B6,1,none⟩ u1).setCell ⟨B6,2,none⟩ u2).setCell ⟨B6,3,none⟩ u3).heap[B6]?=some (.cells #[u0,u1,u2,u3,c4,c5] 135 (0,0)):=Bs e3 3 u3;have e5:(((((((W.setCell ⟨G,4,none⟩ v4).setCell ⟨G,1,none⟩ v1).setCell ⟨B6,0,none⟩ u0).setCell ⟨B6,1,none⟩ u1).setCell ⟨B6,2,none⟩ u2).setCell ⟨B6,3,none⟩ u3).setCell ⟨B6,4,none⟩ u4).heap[B6]?=some (.cells #[u0,u1,u2,u3,u4,c5] 135 (0,0)):=Bs e4 4 u4;have e6:((((((((W.setCell ⟨G,4,none⟩ v4).setCell ⟨G,1,none⟩ v1).setCell ⟨B6,0,none⟩ u0).setCell ⟨B6,1,none⟩ u1).setCell ⟨B6,2,none⟩ u2).setCell ⟨B6,3,none⟩ u3).setCell ⟨B6,4,none⟩ u4).setCell ⟨B6,5,none⟩ u5).heap[B6]?=some (.cells #[u0,u1,u2,u3,u4,u5] 135 (0,0)):=Bs e5 5 u5;refine⟨e6,?_,fun B Ts M a h h7 h8=>?_⟩
 ·have F0:=(BX.refl N [135] (fun _=>False) W).set (p:=⟨G,4,none⟩) b17 (by simp) hG v4;have F1:=F0.set (p:=⟨G,1,none⟩) d1 (by simp) hG v1;have G0:=F1.set (p:=⟨B6,0,none⟩) e0 (by simp) h6 u0;have G1:=G0.set (p:=⟨B6,1,none⟩) e1 (by simp) h6 u1;have G2:=G1.set (p:=⟨B6,2,none⟩) e2 (by simp) h6 u2;have G3:=G2.set (p:=⟨B6,3,none⟩) e3 (by simp) h6 u3;have G4:=G3.set (p:=⟨B6,4,none⟩) e4 (by simp) h6 u4;exact G4.set (p:=⟨B6,5,none⟩) e5 (by simp) h6 u5
 ·exact(((((((h.fresh (p:=⟨G,4,none⟩) h7 v4).fresh (p:=⟨G,1,none⟩) h7 v1).fresh (p:=⟨B6,0,none⟩) h8 u0).fresh (p:=⟨B6,1,none⟩) h8 u1).fresh (p:=⟨B6,2,none⟩) h8 u2).fresh (p:=⟨B6,3,none⟩) h8 u3).fresh (p:=⟨B6,4,none⟩) h8 u4).fresh (p:=⟨B6,5,none⟩) h8 u5
end
end Go.Proofs.YtjjpiefgdggghaaGreatDoor

/- Parts: RunAt, ExStepKit. -/
import Derived.Test.YtnmahobjmpdkdaaGreatDoorG02
import Derived.Test.YtnmahobjmpdkdaaGreatDoorG27
set_option linter.unusedVariables false
set_option linter.unusedSimpArgs false
set_option maxRecDepth 100000
set_option maxHeartbeats 40000000
namespace Go.Proofs.YtnmahobjmpdkdaaGreatDoor
section
open Go.RowKit Go.Proofs.YtnmahobjmpdkdaaGreatDoorW.PrintWords
theorem WO:(Tryz.prog.info? 83).map (fun i=>(i.zero,i.size,i.bytes))=some (some (.agg #[.int .i64 0,.int .i64 0,.int .i64 0]),3,24):=by kernel_rfl
def DP:List DZ→List Value
 |[]=>[]
 |p::L=>.int .i64 (p.1:Int)::.int .i64 (p.2:Int)::.int .i64 0::DP L
theorem HM:∀ (L:List DZ) (p:DZ),DP (L++[p])=DP L++[.int .i64 (p.1:Int),.int .i64 (p.2:Int),.int .i64 0]
 |[],p=>rfl
 |q::L,p=>by simp[DP,HM L p]
def Fk(W:World)(N:Nat)(v:Value)(L:List DZ):Prop:=W.ownsRow N 83 3 v L.length (DP L)
def Cc(W:World)(N:Nat)(v:Value)(L:List Nat):Prop:=W.ownsRow N 3 1 v L.length (L.map fun x:Nat=>Value.int .i64 x)
def Uw(b:Bool):Int:=if b=true then 1 else 0
structure CZ (w W:World) (pr px:Nat) (vl vc vw vr:Value) (pl:Option Addr) (vd ve:Value) (r:AQ):Prop where
 x:Dp w W px vl vc vw vr pl r.x
 Jh:w.heap.size≤pr
 br:W.heap[pr]?=some (.cells #[.pointer (some ⟨px,0,none⟩),vd,ve,.int .i64 (Uw r.bad)] 75 (0,0))
 act:Cc W w.heap.size vd r.act
 l:Fk W w.heap.size ve r.l
section
variable {ops:Array Oper} {rest:List Oper} {o:Oper} {a:Act} {Q:Exit→Act→World→Prop} {W:World}
theorem Yz(hgd:o.guard=none)(s x:Operand)(ho:o.op=.call {callee:=.builtin .append,args:=#[s,x],argTypes:=#[73,73]})
  (base g:Nat)(y:DZ)(v:Value)(xs:List DZ)(hs:a.eval s=v)(hr:Fk W base v xs)(hx:a.eval x=.slice (some ⟨g,0,none⟩) 1 1)
  (hy:W.heap[g]?=some (.cells #[.int .i64 (y.1:Int),.int .i64 (y.2:Int),.int .i64 0] 83 (0,0)))(hl:xs.length≤100000000)(hb:base≤W.heap.size)
  (h:∀ v' W1,Fk W1 base v' (xs++[y])→W.grownBy W1 v.ownBlock→wpList Tryz.prog ops Q rest (a.put o.dst v') W1) :
  wpList Tryz.prog ops Q (o::rest) a W:=by
 obtain⟨i9,hi,hz0,hz1,hz2⟩:=info_parts WO;refine wpList_append_own_at _ hgd s x 73 ho base 83 i9 (.agg #[.int .i64 0,.int .i64 0,.int .i64 0]) 3 24 Tryz.underlying73 hi hz0 hz1 hz2 rfl (by decide) v xs.length (DP xs) hs hr ⟨g,0,none⟩ 1 1 [.int .i64 (y.1:Int),.int .i64 (y.2:Int),.int .i64 0] hx rfl ?_ ?_ ?_ ?_ hb ?_
 ·intro j u hj;rw[add_plain];exact(Bc hy j).trans (by simpa using hj)
 ·intro u hu;simp at hu;rcases hu with rfl |rfl |rfl<;>rfl
 ·simp[maxLen];omega
 ·omega
 ·intro v' W1 h1 h2 _ h4;refine h v' W1 ?_ h2;unfold Fk;rw[HM,List.length_append];exact h1
end
theorem FB(w W:World)(pr px:Nat)(vl vc vw vr:Value)(pl:Option Addr)(vd ve:Value)(r:AQ)(k t:Nat)(h:CZ w W pr px vl vc vw vr pl vd ve r)(hl:r.l.length≤95000000) :
  Calls Tryz.prog 67 #[.pointer (some ⟨pr,0,none⟩),.int .i64 k,.int .i64 t] W fun e W'=>e=.returned (.tuple #[])∧∃ ve',CZ w W' pr px vl vc vw vr pl vd ve' {r with l:=r.l++[(k,t)]}∧Cq w.heap.size [75,83] (fun _=>False) W W':=by
 have c2:W.cell? ⟨pr,2,none⟩=some ve:=(Bc h.br 2).trans rfl;have hNW:=h.x.hz;have hb0:=Bw W (.cells #[.int .i64 (k:Int),.int .i64 (t:Int),.int .i64 0] 83);have hl0:Fk (W.alloc (.cells #[.int .i64 (k:Int),.int .i64 (t:Int),.int .i64 0] 83)) w.heap.size ve r.l:=Om h.l (fun k hk=>hb0.block k (Ol h.l k hk));have hx0:=h.x.keep hb0;have ha0:Cc (W.alloc (.cells #[.int .i64 (k:Int),.int .i64 (t:Int),.int .i64 0] 83)) w.heap.size vd r.act:=Om h.act (fun k hk=>hb0.block k (Ol h.act k hk));have hbr0:=Bk hb0 h.br;have Jh:=h.Jh;clear h;replace hl0:=Az hl0;replace hx0:=Az hx0;replace ha0:=Az ha0;replace hbr0:=Az hbr0;replace hb0:=Az hb0;go_enter Tryz.func67,Tryz.ntmps67;go_wp2_with (at_builtin;refine Yz rfl (.tmp 10) (.tmp 14) rfl w.heap.size W.heap.size (k,t) ve r.l rfl hl0.out rfl (Bv _ _) ?hl3 ?hb3 ?_)
 case hl3=>omega
 case hb3=>simp;omega
 rintro v3 W3 hr3 hg3;have hbr3:=Bg hbr0.out hg3 (Oa hl0.out hbr0.out (by decide));have c3:W3.cell? ⟨pr,2,none⟩=some ve:=(Bc hbr3 2).trans rfl;have f3:=Bf hbr3 2;have F3:=((Cq.refl w.heap.size [75,83] (fun _=>False) W).then hb0.out).grown hl0.out (by simp) hg3;have F4:=F3.set (p:=⟨pr,2,none⟩) hbr3 (by simp) Jh v3;have G3:=(Cq.refl w.heap.size [75,83] (fun _=>False) (W.alloc (.cells #[.int .i64 (k:Int),.int .i64 (t:Int),.int .i64 0] 83))).grown hl0.out (by simp) hg3;have G4:=G3.set (p:=⟨pr,2,none⟩) hbr3 (by simp) Jh v3;have hx4:=hx0.out.frame G4 (by decide) (by decide) (by decide) (by decide);have ha4:Cc _ w.heap.size vd r.act:=G4.own ha0.out (by decide) (fun _ _ f=>f);have hbr4:=Bs hbr3 2 v3;have hr4:Fk _ w.heap.size v3 (r.l++[(k,t)]):=Rs hr3 hbr3 (by decide) 2 v3;have hv3:=AB hr3;obtain⟨A3,n3,c3',rfl⟩:=hv3;replace F4:=Az F4;replace hx4:=Az hx4;replace ha4:=Az ha4;replace hbr4:=Az hbr4;replace hr4:=Az hr4;clear hr3 hg3 hbr3 F3 G3 G4;go_wp2;exact bodyPost_end (fn:=Tryz.f67) (v:=.tuple #[]) (results_none rfl _ _ _) rfl ⟨rfl,_,⟨hx4.out,Jh,hbr4.out,ha4.out,hr4.out⟩,F4.out⟩
theorem Kp{W:World}{g:Nat}{t:TypeId}{y0 y1 y2 y3 y4 y5:Value}(b:W.heap[g]?=some (.cells #[y0,y1,y2,y3,y4,y5] t (0,0))) :
  W.cell? ⟨g,0,none⟩=some y0∧W.cell? ⟨g,1,none⟩=some y1∧W.cell? ⟨g,2,none⟩=some y2∧W.cell? ⟨g,3,none⟩=some y3∧W.cell? ⟨g,4,none⟩=some y4∧W.cell? ⟨g,5,none⟩=some y5 :=
 ⟨(Bc b 0).trans rfl,(Bc b 1).trans rfl,(Bc b 2).trans rfl,(Bc b 3).trans rfl,(Bc b 4).trans rfl,(Bc b 5).trans rfl⟩
theorem Qj{W:World}{g:Nat}{t:TypeId}{cs:Array Value}(b:W.heap[g]?=some (.cells cs t (0,0))) :
  W.frozen? ⟨g,0,none⟩=false∧W.frozen? ⟨g,1,none⟩=false∧W.frozen? ⟨g,2,none⟩=false∧W.frozen? ⟨g,3,none⟩=false∧W.frozen? ⟨g,4,none⟩=false∧W.frozen? ⟨g,5,none⟩=false :=
 ⟨Bf b 0,Bf b 1,Bf b 2,Bf b 3,Bf b 4,Bf b 5⟩
theorem Xg{W W1:World}{px N7 gc p:Nat}{v0 v1 y0 y1 y2 y3 y4 y5 y6 y7:Value}(hb:Below W.heap.size W W1)(h:W.cell? ⟨px,0,none⟩=some v0∧W.cell? ⟨N7,8,none⟩=some v1∧W.cell? ⟨gc,p*8,none⟩=some y0∧W.cell? ⟨gc,p*8+1,none⟩=some y1∧W.cell? ⟨gc,p*8+2,none⟩=some y2∧W.cell? ⟨gc,p*8+3,none⟩=some y3∧W.cell? ⟨gc,p*8+4,none⟩=some y4∧W.cell? ⟨gc,p*8+5,none⟩=some y5∧W.cell? ⟨gc,p*8+6,none⟩=some y6∧W.cell? ⟨gc,p*8+7,none⟩=some y7) :
  W1.cell? ⟨px,0,none⟩=some v0∧W1.cell? ⟨N7,8,none⟩=some v1∧W1.cell? ⟨gc,p*8,none⟩=some y0∧W1.cell? ⟨gc,p*8+1,none⟩=some y1∧W1.cell? ⟨gc,p*8+2,none⟩=some y2∧W1.cell? ⟨gc,p*8+3,none⟩=some y3∧W1.cell? ⟨gc,p*8+4,none⟩=some y4∧W1.cell? ⟨gc,p*8+5,none⟩=some y5∧W1.cell? ⟨gc,p*8+6,none⟩=some y6∧W1.cell? ⟨gc,p*8+7,none⟩=some y7:=by
 obtain⟨h0,h1,h2,h3,h4,h5,h6,h7,h8,h9⟩:=h;exact⟨Ck hb h0,Ck hb h1,Ck hb h2,Ck hb h3,Ck hb h4,Ck hb h5,Ck hb h6,Ck hb h7,Ck hb h8,Ck hb h9⟩
def XX:Array Value:=#[.slice none 0 0,.int .i64 0,.int .i64 0,.int .i64 0,.int .i64 0,.int .i64 0]
def ZN:Array Value:=#[.slice none 0 0,.int .i64 (-1),.int .i64 (-1),.int .i64 0,.int .i64 0,.int .i64 11]
structure JL (w Wb W:World) (px:Nat) (vl vc vw vr:Value) (pl:Option Addr) (x:AG) (cc:CoreM) (N6 N7 N8:Nat):Prop where
 e:Dp w W px vl vc vw vr pl x
 f:Cq w.heap.size Jz (fun _=>False) Wb W
 h6:Wb.heap.size≤N6
 h7:Wb.heap.size≤N7
 h9:∀ k,vr.ownBlock=some k→k≠N7
 b6:W.heap[N6]?=some (.cells XX 113 (0,0))
 b7:W.heap[N7]?=some (.cells cc.arr 133 (0,0))
 b8:W.heap[N8]?=some (.cells ZN 113 (0,0))
 c:cc.ok
section
variable {w Wb W W1:World} {px N6 N7 N8:Nat} {vl vc vw vr:Value} {pl:Option Addr} {x:AG} {cc:CoreM}
theorem JL.keep(h:JL w Wb W px vl vc vw vr pl x cc N6 N7 N8)(hb:Below W.heap.size W W1):JL w Wb W1 px vl vc vw vr pl x cc N6 N7 N8 :=
 ⟨h.e.keep hb,h.f.then hb,h.h6,h.h7,h.h9,Bk hb h.b6,Bk hb h.b7,Bk hb h.b8,h.c⟩
end
theorem YE{w Wb W:World}{px N6 N7 N8 G9:Nat}{vl vc vw vr y1 y2:Value}{pl:Option Addr}{x:AG}{cc:CoreM}(h:Af (JL w Wb W px vl vc vw vr pl x cc N6 N7 N8)∧W.cell? ⟨px,3,none⟩=some y1∧W.cell? ⟨G9,5,none⟩=some y2):Dn W w.heap.size vc x.cells:=h.1.out.e.cells
theorem JL.out{w Wb W:World}{px N6 N7 N8:Nat}{vl vc vw vr:Value}{pl:Option Addr}{x:AG}{cc:CoreM}(h:JL w Wb W px vl vc vw vr pl x cc N6 N7 N8)(hN:w.heap.size≤Wb.heap.size)(M:Nat→Prop)(o:Ex)(A:Option Addr)(c:Nat)(hm:Bo W w.heap.size (.slice A o.marks.length c) o.marks)(a:Act)(hd:a.defers=[])
  (h6:a.tmps.getD 6 undef=.pointer (some ⟨N6,0,none⟩)):∀ W',W'=(((((W.setCell ⟨N6,0,none⟩ (.slice A o.marks.length c)).setCell ⟨N6,1,none⟩ (.int .i64 o.done)).setCell ⟨N6,2,none⟩ (.int .i64 o.addr)).setCell ⟨N6,3,none⟩ (.int .i64 (o.wrote:Int))).setCell ⟨N6,4,none⟩ (.int .i64 (o.stay:Int))).setCell ⟨N6,5,none⟩ (.int .i64 o.e) →
  bodyPost Tryz.prog Tryz.f70 (GQ w Wb px vl vc vw vr pl M (x,o)) .ret a W'∧bodyPost Tryz.prog Tryz.f70 (GQ w Wb px vl vc vw vr pl M (x,o)) .ret a W'.drew:=by
 intro W' hW;obtain⟨c8,F5,F6⟩:=I5 (N:=w.heap.size) (Nat.le_trans hN h.h6) h.b6 _ _ _ _ _ _ W' hW;have FW:=F6 _ _ _ _ (h.f.MI (M':=M) (fun _ f=>f.elim)) h.h6;have hE:=h.e.frame F5 (by decide) (by decide) (by decide) (by decide);exact⟨bodyPost_ret (results_cell_row rfl _ _ N6 113 #[.slice A o.marks.length c,.int .i64 o.done,.int .i64 o.addr,.int .i64 (o.wrote:Int),.int .i64 (o.stay:Int),.int .i64 o.e] (0,0) _ h6 c8 Tryz.underlying113 rfl (by kernel_rfl)) hd ⟨_,rfl,F5.own hm (by decide) (fun _ _ f=>f),hE,FW⟩,
  bodyPost_ret (results_cell_row rfl _ _ N6 113 #[.slice A o.marks.length c,.int .i64 o.done,.int .i64 o.addr,.int .i64 (o.wrote:Int),.int .i64 (o.stay:Int),.int .i64 o.e] (0,0) _ h6 (Be c8) Tryz.underlying113 rfl (by kernel_rfl)) hd ⟨_,rfl,F5.own hm (by decide) (fun _ _ f=>f),hE.keep (Bd (Below.refl _ _)),FW.drew⟩⟩
theorem P5{a:Int}{p:Nat}:∀ (L:List (Nat×Nat)) (k j:Nat),CY a p k L=some j→k≤j∧j<k+L.length
 |[],k,j,h=>by simp[CY]at h
 |c::L,k,j,h=>by
  unfold CY at h;by_cases hc:(c.1:Int)=a∧c.2=p
  ·rw[if_pos hc]at h;obtain rfl:=Option.some.inj h;exact⟨Nl _,by simp⟩
  ·rw[if_neg hc]at h;obtain⟨h1,h2⟩:=P5 L (k+1) j h;exact⟨by omega,by simp;omega⟩
section
variable {w Wb W:World} {px N6 N7 N8:Nat} {vl vc vw vr:Value} {pl:Option Addr} {x:AG} {cc:CoreM}
theorem JL.acc(h:JL w Wb W px vl vc vw vr pl x cc N6 N7 N8)(y:Int):∀ W',W'=W.setCell ⟨px,7,none⟩ (.int .i64 y) →
  JL w Wb W' px vl vc vw vr pl x cc N6 N7 N8∧W'.heap.size=W.heap.size∧∀ (g:Nat) (cs:Array Value) (T:TypeId),W.heap[g]?=some (.cells cs T (0,0))→T≠80→W'.heap[g]?=some (.cells cs T (0,0)):=by
 rintro W' rfl;obtain⟨acc,hbx⟩:=h.e.bx;have far:∀ (g:Nat) (cs:Array Value) (T:TypeId),W.heap[g]?=some (.cells cs T (0,0))→T≠80→(W.setCell ⟨px,7,none⟩ (.int .i64 y)).heap[g]?=some (.cells cs T (0,0)):=fun g cs T hg hT=>Ba hg (p:=⟨px,7,none⟩) (CU hg hbx hT) _
 have F:Cq w.heap.size [80] (fun _=>False) W (W.setCell ⟨px,7,none⟩ (.int .i64 y)):=(Cq.refl _ _ _ W).set (p:=⟨px,7,none⟩) hbx (by simp) h.e.Ms _;have hbx':=Bs hbx 7 (.int .i64 y);exact⟨⟨⟨h.e.b.trans (F.below h.e.hz),h.e.Ms,⟨y,hbx'⟩,h.e.code,F.own h.e.cells (by decide) (fun _ _ f=>f),F.own h.e.words (by decide) (fun _ _ f=>f),F.own h.e.AP (by decide) (fun _ _ f=>f),h.e.ok,h.e.Wg⟩,
  h.f.trans (F.mono (by simp[Jz])),h.h6,h.h7,h.h9,far _ _ _ h.b6 (by decide),far _ _ _ h.b7 (by decide),far _ _ _ h.b8 (by decide),h.c⟩,by simp[World.setCell],far⟩
theorem JL.Ny(h:JL w Wb W px vl vc vw vr pl x cc N6 N7 N8)(hN:w.heap.size≤Wb.heap.size){d:Nat}(hd:d<8){v:Nat}(hv:v<4294967296):∀ W',W'=W.setCell ⟨N7,d,none⟩ (.int .i64 v) →
  JL w Wb W' px vl vc vw vr pl x (cc.set d v) N6 N7 N8∧W'.heap.size=W.heap.size∧∀ (g:Nat) (cs:Array Value) (T:TypeId),W.heap[g]?=some (.cells cs T (0,0))→T≠133→W'.heap[g]?=some (.cells cs T (0,0)):=by
 rintro W' rfl;have far:∀ (g:Nat) (cs:Array Value) (T:TypeId),W.heap[g]?=some (.cells cs T (0,0))→T≠133→(W.setCell ⟨N7,d,none⟩ (.int .i64 v)).heap[g]?=some (.cells cs T (0,0)):=fun g cs T hg hT=>Ba hg (p:=⟨N7,d,none⟩) (CU hg h.b7 hT) _
 have hm:∀ k:Nat,k≠N7→(W.setCell ⟨N7,d,none⟩ (.int .i64 v)).heap[k]?=W.heap[k]?:=fun k hk=>Below.heap_setCell _ ⟨N7,d,none⟩ _ k hk
 obtain⟨acc,hbx⟩:=h.e.bx;have hb7:=Bs h.b7 d (.int .i64 v);rw[RW h.c.len d hd v]at hb7;exact⟨⟨⟨h.e.b.setCell (p:=⟨N7,d,none⟩) (Nat.le_trans hN h.h7) _,h.e.Ms,⟨acc,far _ _ _ hbx (by decide)⟩,h.e.code,Om h.e.cells (fun k hk=>hm k (fun e=>Oa h.e.cells h.b7 (by decide) (by rw[hk,e]))),Om h.e.words (fun k hk=>hm k (fun e=>Oa h.e.words h.b7 (by decide) (by rw[hk,e]))),Om h.e.AP (fun k hk=>hm k (h.h9 k hk)),h.e.ok,h.e.Wg⟩,
  h.f.set (p:=⟨N7,d,none⟩) h.b7 (by decide) (Nat.le_trans hN h.h7) _,h.h6,h.h7,h.h9,far _ _ _ h.b6 (by decide),hb7,far _ _ _ h.b8 (by decide),h.c.set d hv⟩,by simp[World.setCell],far⟩
theorem JL.Zg(h:JL w Wb W px vl vc vw vr pl x cc N6 N7 N8)(hN:w.heap.size≤Wb.heap.size)(v:Int):∀ W',W'=W.setCell ⟨N7,8,none⟩ (.int .i64 v) →
  JL w Wb W' px vl vc vw vr pl x (cc.at v) N6 N7 N8∧W'.heap.size=W.heap.size∧∀ (g:Nat) (cs:Array Value) (T:TypeId),W.heap[g]?=some (.cells cs T (0,0))→T≠133→W'.heap[g]?=some (.cells cs T (0,0)):=by
 rintro W' rfl;have far:∀ (g:Nat) (cs:Array Value) (T:TypeId),W.heap[g]?=some (.cells cs T (0,0))→T≠133→(W.setCell ⟨N7,8,none⟩ (.int .i64 v)).heap[g]?=some (.cells cs T (0,0)):=fun g cs T hg hT=>Ba hg (p:=⟨N7,8,none⟩) (CU hg h.b7 hT) _
 have hm:∀ k:Nat,k≠N7→(W.setCell ⟨N7,8,none⟩ (.int .i64 v)).heap[k]?=W.heap[k]?:=fun k hk=>Below.heap_setCell _ ⟨N7,8,none⟩ _ k hk
 obtain⟨acc,hbx⟩:=h.e.bx;have hb7:=Bs h.b7 8 (.int .i64 v);rw[QO h.c.len v]at hb7;exact⟨⟨⟨h.e.b.setCell (p:=⟨N7,8,none⟩) (Nat.le_trans hN h.h7) _,h.e.Ms,⟨acc,far _ _ _ hbx (by decide)⟩,h.e.code,Om h.e.cells (fun k hk=>hm k (fun e=>Oa h.e.cells h.b7 (by decide) (by rw[hk,e]))),Om h.e.words (fun k hk=>hm k (fun e=>Oa h.e.words h.b7 (by decide) (by rw[hk,e]))),Om h.e.AP (fun k hk=>hm k (h.h9 k hk)),h.e.ok,h.e.Wg⟩,
  h.f.set (p:=⟨N7,8,none⟩) h.b7 (by decide) (Nat.le_trans hN h.h7) _,h.h6,h.h7,h.h9,far _ _ _ h.b6 (by decide),hb7,far _ _ _ h.b8 (by decide),h.c.at v⟩,by simp[World.setCell],far⟩
theorem JL.Sz{gw nw cw:Nat}(h:JL w Wb W px vl vc (.slice (some ⟨gw,0,none⟩) nw cw) vr pl x cc N6 N7 N8){aa:Nat}(haa:aa<x.words.length){v:Nat}(hv:v<4294967296):∀ W',W'=W.setCell ⟨gw,aa,none⟩ (.int .u32 v) →
  JL w Wb W' px vl vc (.slice (some ⟨gw,0,none⟩) nw cw) vr pl {x with words:=x.words.set aa v} cc N6 N7 N8∧W'.heap.size=W.heap.size∧∀ (g:Nat) (cs:Array Value) (T:TypeId),W.heap[g]?=some (.cells cs T (0,0))→T≠22→W'.heap[g]?=some (.cells cs T (0,0)):=by
 rintro W' rfl;have hw:=h.e.words;unfold E6 at hw;obtain⟨g',c',hv2,hc2,hg',⟨cs,hcs,hsz⟩,_⟩:=CO hw (by omega);obtain⟨rfl,rfl,rfl⟩:gw=g'∧nw=x.words.length∧cw=c':=by cases hv2;exact⟨rfl,rfl,rfl⟩
 have far:∀ (g:Nat) (cs':Array Value) (T:TypeId),W.heap[g]?=some (.cells cs' T (0,0))→T≠22→(W.setCell ⟨gw,aa,none⟩ (.int .u32 v)).heap[g]?=some (.cells cs' T (0,0)):=fun g cs' T hg hT=>Ba hg (p:=⟨gw,aa,none⟩) (CU hg hcs hT) _
 have hm:∀ k:Nat,k≠gw→(W.setCell ⟨gw,aa,none⟩ (.int .u32 v)).heap[k]?=W.heap[k]?:=fun k hk=>Below.heap_setCell _ ⟨gw,aa,none⟩ _ k hk
 obtain⟨acc,hbx⟩:=h.e.bx;have hp:=DF hw aa (by omega) (.int .u32 v);refine⟨⟨⟨h.e.b.setCell (p:=⟨gw,aa,none⟩) hg' _,h.e.Ms,⟨acc,far _ _ _ hbx (by decide)⟩,h.e.code,Om h.e.cells (fun k hk=>hm k (fun e=>Oa h.e.cells hcs (by decide) (by rw[hk,e]))),?_,Om h.e.AP (fun k hk=>hm k (fun e=>Oa h.e.AP hcs (by decide) (by rw[hk,e]))),h.e.ok,?_⟩,
  h.f.set (p:=⟨gw,aa,none⟩) hcs (by decide) hg' _,h.h6,h.h7,h.h9,far _ _ _ h.b6 (by decide),far _ _ _ h.b7 (by decide),far _ _ _ h.b8 (by decide),h.c⟩,by simp[World.setCell],far⟩
 ·unfold E6;simp only[List.length_set,List.map_set];exact hp
 ·intro y hy;rcases List.mem_or_eq_of_mem_set hy with h' |rfl
  ·exact h.e.Wg y h'
  ·exact hv
theorem JL.Wq{G k:Nat}{cs:Array Value}(h:JL w Wb W px vl vc vw vr pl x cc N6 N7 N8)(hb:W.heap[G]?=some (.cells cs 113 (0,0)))(hG:Wb.heap.size≤G)(hN:w.heap.size≤Wb.heap.size)(h6:N6≠G)(h8:N8≠G)(v:Value):∀ W',W'=W.setCell ⟨G,k,none⟩ v →
  JL w Wb W' px vl vc vw vr pl x cc N6 N7 N8∧W'.heap.size=W.heap.size∧(∀ (g:Nat) (cs:Array Value) (T:TypeId),W.heap[g]?=some (.cells cs T (0,0))→T≠113→W'.heap[g]?=some (.cells cs T (0,0)))∧W'.heap[G]?=some (.cells (cs.setIfInBounds k v) 113 (0,0)):=by
 rintro W' rfl;have far:∀ (g:Nat) (cs:Array Value) (T:TypeId),W.heap[g]?=some (.cells cs T (0,0))→T≠113→(W.setCell ⟨G,k,none⟩ v).heap[g]?=some (.cells cs T (0,0)):=fun g cs T hg hT=>Ba hg (p:=⟨G,k,none⟩) (CU hg hb hT) _
 have F:Cq w.heap.size [113] (fun _=>False) W (W.setCell ⟨G,k,none⟩ v):=(Cq.refl _ _ _ W).set (p:=⟨G,k,none⟩) hb (by simp) (Nat.le_trans hN hG) v;exact⟨⟨h.e.frame F (by decide) (by decide) (by decide) (by decide),h.f.fresh (p:=⟨G,k,none⟩) hG v,h.h6,h.h7,h.h9,Ba h.b6 (p:=⟨G,k,none⟩) h6 _,far _ _ _ h.b7 (by decide),Ba h.b8 (p:=⟨G,k,none⟩) h8 _,h.c⟩,by simp[World.setCell],far,Bs hb k v⟩
end
theorem TW{W:World}{N G B6:Nat}{a0 a1 a2 a3 a4 a5 c0 c1 c2 c3 c4 c5:Value}(hG:N≤G)(h6:N≤B6)(hne:B6≠G)(b17:W.heap[G]?=some (.cells #[a0,a1,a2,a3,a4,a5] 113 (0,0)))(b6:W.heap[B6]?=some (.cells #[c0,c1,c2,c3,c4,c5] 113 (0,0)))
  (v4 v1 u0 u1 u2 u3 u4 u5:Value):∀ W',W'=((((((((W.setCell ⟨G,4,none⟩ v4).setCell ⟨G,1,none⟩ v1).setCell ⟨B6,0,none⟩ u0).setCell ⟨B6,1,none⟩ u1).setCell ⟨B6,2,none⟩ u2).setCell ⟨B6,3,none⟩ u3).setCell ⟨B6,4,none⟩ u4).setCell ⟨B6,5,none⟩ u5)→W'.heap[B6]?=some (.cells #[u0,u1,u2,u3,u4,u5] 113 (0,0))∧Cq N [113] (fun _=>False) W W' ∧
   ∀ (B:Nat) (Ts:List TypeId) (M:Nat→Prop) (a:World),Cq B Ts M a W→a.heap.size≤G→a.heap.size≤B6→Cq B Ts M a W':=by
 rintro W' rfl;have d1:(W.setCell ⟨G,4,none⟩ v4).heap[G]?=some (.cells #[a0,a1,a2,a3,v4,a5] 113 (0,0)):=Bs b17 4 v4;have e0:((W.setCell ⟨G,4,none⟩ v4).setCell ⟨G,1,none⟩ v1).heap[B6]?=some (.cells #[c0,c1,c2,c3,c4,c5] 113 (0,0)):=Ba (Ba b6 (p:=⟨G,4,none⟩) hne v4) (p:=⟨G,1,none⟩) hne v1;have e1:(((W.setCell ⟨G,4,none⟩ v4).setCell ⟨G,1,none⟩ v1).setCell ⟨B6,0,none⟩ u0).heap[B6]?=some (.cells #[u0,c1,c2,c3,c4,c5] 113 (0,0)):=Bs e0 0 u0;have e2:((((W.setCell ⟨G,4,none⟩ v4).setCell ⟨G,1,none⟩ v1).setCell ⟨B6,0,none⟩ u0).setCell ⟨B6,1,none⟩ u1).heap[B6]?=some (.cells #[u0,u1,c2,c3,c4,c5] 113 (0,0)):=Bs e1 1 u1;have e3:(((((W.setCell ⟨G,4,none⟩ v4).setCell ⟨G,1,none⟩ v1).setCell ⟨B6,0,none⟩ u0).setCell ⟨B6,1,none⟩ u1).setCell ⟨B6,2,none⟩ u2).heap[B6]?=some (.cells #[u0,u1,u2,c3,c4,c5] 113 (0,0)):=Bs e2 2 u2;have e4:((((((W.setCell ⟨G,4,none⟩ v4).setCell ⟨G,1,none⟩ v1).setCell ⟨B6,0,none⟩ u0).setCell ⟨B6,1,none⟩ u1).setCell ⟨B6,2,none⟩ u2).setCell ⟨B6,3,none⟩ u3).heap[B6]?=some (.cells #[u0,u1,u2,u3,c4,c5] 113 (0,0)):=Bs e3 3 u3;have e5:(((((((W.setCell ⟨G,4,none⟩ v4).setCell ⟨G,1,none⟩ v1).setCell ⟨B6,0,none⟩ u0).setCell ⟨B6,1,none⟩ u1).setCell ⟨B6,2,none⟩ u2).setCell ⟨B6,3,none⟩ u3).setCell ⟨B6,4,none⟩ u4).heap[B6]?=some (.cells #[u0,u1,u2,u3,u4,c5] 113 (0,0)):=Bs e4 4 u4;have e6:((((((((W.setCell ⟨G,4,none⟩ v4).setCell ⟨G,1,none⟩ v1).setCell ⟨B6,0,none⟩ u0).setCell ⟨B6,1,none⟩ u1).setCell ⟨B6,2,none⟩ u2).setCell ⟨B6,3,none⟩ u3).setCell ⟨B6,4,none⟩ u4).setCell ⟨B6,5,none⟩ u5).heap[B6]?=some (.cells #[u0,u1,u2,u3,u4,u5] 113 (0,0)):=Bs e5 5 u5;refine⟨e6,?_,fun B Ts M a h h7 h8=>?_⟩
 ·have F0:=(Cq.refl N [113] (fun _=>False) W).set (p:=⟨G,4,none⟩) b17 (by simp) hG v4;have F1:=F0.set (p:=⟨G,1,none⟩) d1 (by simp) hG v1;have G0:=F1.set (p:=⟨B6,0,none⟩) e0 (by simp) h6 u0;have G1:=G0.set (p:=⟨B6,1,none⟩) e1 (by simp) h6 u1;have G2:=G1.set (p:=⟨B6,2,none⟩) e2 (by simp) h6 u2;have G3:=G2.set (p:=⟨B6,3,none⟩) e3 (by simp) h6 u3;have G4:=G3.set (p:=⟨B6,4,none⟩) e4 (by simp) h6 u4;exact G4.set (p:=⟨B6,5,none⟩) e5 (by simp) h6 u5
 ·exact(((((((h.fresh (p:=⟨G,4,none⟩) h7 v4).fresh (p:=⟨G,1,none⟩) h7 v1).fresh (p:=⟨B6,0,none⟩) h8 u0).fresh (p:=⟨B6,1,none⟩) h8 u1).fresh (p:=⟨B6,2,none⟩) h8 u2).fresh (p:=⟨B6,3,none⟩) h8 u3).fresh (p:=⟨B6,4,none⟩) h8 u4).fresh (p:=⟨B6,5,none⟩) h8 u5
end
end Go.Proofs.YtnmahobjmpdkdaaGreatDoor

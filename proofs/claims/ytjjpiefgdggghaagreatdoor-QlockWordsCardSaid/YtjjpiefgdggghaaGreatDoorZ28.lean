/- Parts: SpecTicket, SpecStep, SpecRows, HasTicket, HasAnderson. -/
import Derived.Test.YtjjpiefgdggghaaGreatDoorZ02
import Derived.Test.YtjjpiefgdggghaaGreatDoorZ26
import Derived.Test.YtjjpiefgdggghaaGreatDoorZ10
import Derived.Test.YtjjpiefgdggghaaGreatDoorZ27
import Derived.Test.YtjjpiefgdggghaaGreatDoorZ09
set_option linter.unusedVariables false
set_option linter.unusedSimpArgs false
set_option maxRecDepth 100000
set_option maxHeartbeats 40000000
namespace Go.Proofs.YtjjpiefgdggghaaGreatDoor
section
open Go.RowKit Go.Proofs.YtjjpiefgdggghaaGreatDoorW.PrintWords
def ticketT:List UInt8:=[108,111,99,107,58,10,102,97,100,100,32,114,49,32,48,32,114,48,32,49,10,109,97,114,107,32,49,10,97,119,97,105,116,32,114,50,32,49,32,114,48,32,101,113,32,114,49,10,109,97,114,107,32,50,10,100,111,110,101,32,49,10,117,110,108,111,99,107,58,10,97,100,100,107,32,114,49,32,114,49,32,49,10,115,116,111,114,101,32,49,32,114,48,32,114,49,10,109,97,114,107,32,52,10,100,111,110,101,32,50,10]
theorem ticket_len:ticketT.length≤90000:=by decide +kernel
theorem ticket_few:(At ticketT).1.l.length≤1000:=by decide +kernel
theorem ticketText_calls(W:World):Calls Tryz.prog 79 #[] W fun e W'=>e=.returned (.string ⟨ticketT.toArray⟩)∧W'=W:=by
 go_enter Tryz.func79,Tryz.ntmps79;go_wp2;go_ret;exact⟨rfl,rfl⟩

theorem ticketSpec_no(n st:Int)(h:n<1∨64<n)(w:World):Calls Tryz.prog 50 #[.int .i64 n,.int .u32 st] w (DS w):=by
 have hN:=Bv w (.cells #[.slice none 0 0,.int .i64 0,.int .i64 0,.slice none 0 0,.slice none 0 0,.int .i64 0,.slice none 0 0] 37);have hb0:=Bw w (.cells #[.slice none 0 0,.int .i64 0,.int .i64 0,.slice none 0 0,.slice none 0 0,.int .i64 0,.slice none 0 0] 37);have hfin:=Dl hb0 hN;obtain⟨w0,hw0⟩:∃ y,w.alloc (.cells #[.slice none 0 0,.int .i64 0,.int .i64 0,.slice none 0 0,.slice none 0 0,.int .i64 0,.slice none 0 0] 37)=y:=⟨_,rfl⟩
 rw[hw0]at hfin hN;have d0:w0.cell? ⟨w.heap.size,0,none⟩=some (.slice none 0 0):=(Bc hN 0).trans rfl;have d1:w0.cell? ⟨w.heap.size,1,none⟩=some (.int .i64 0):=(Bc hN 1).trans rfl;have d2:w0.cell? ⟨w.heap.size,2,none⟩=some (.int .i64 0):=(Bc hN 2).trans rfl;have d3:w0.cell? ⟨w.heap.size,3,none⟩=some (.slice none 0 0):=(Bc hN 3).trans rfl;have d4:w0.cell? ⟨w.heap.size,4,none⟩=some (.slice none 0 0):=(Bc hN 4).trans rfl;have d5:w0.cell? ⟨w.heap.size,5,none⟩=some (.int .i64 0):=(Bc hN 5).trans rfl;have d6:w0.cell? ⟨w.heap.size,6,none⟩=some (.slice none 0 0):=(Bc hN 6).trans rfl;have e0:=Bf hN 0;have e1:=Bf hN 1;have e2:=Bf hN 2;have e3:=Bf hN 3;have e4:=Bf hN 4;have e5:=Bf hN 5;have e6:=Bf hN 6;have z0:w.heap.size<w0.heap.size:=Bl hN;replace hfin:=Az hfin;clear hN hb0;go_enter Tryz.func50,Tryz.ntmps50;go_upto_region 1 with fail
 try rw[hw0]
 clear hw0;go_cut [12] (fun v wx=>v=.bool true∧wx=w0)
 case first =>
  rcases h with h |h
  ·have hd1:decide (n<1)=true:=decide_eq_true h;go_wp2;go_meet
   exact⟨rfl,rfl⟩
  ·have hd1:decide (n<1)=false:=decide_eq_false (by omega);have hd2:decide (64<n)=true:=decide_eq_true h;go_wp2;go_meet
   exact⟨rfl,rfl⟩
 case rest =>
  obtain⟨rfl,rfl⟩:=hcut;go_wp2;obtain⟨g1,g2⟩:=hfin.out _ rfl;refine bodyPost_ret (Ah rfl _ _ w.heap.size 37 #[.slice none 0 0,.int .i64 0,.int .i64 0,.slice none 0 0,.slice none 0 0,.int .i64 0,.slice none 0 0] (0,0) _ rfl g1 Tryz.underlying37 rfl (by kernel_rfl)) rfl ⟨rfl,g2⟩
section
variable {ops:Array Oper} {o:Oper} {a:Act} {K:Act→World→Prop} {Q:Exit→Act→World→Prop} {E:Prop} {W:World}
theorem Ea(hgd:o.guard=none)(ho:o.op=.alloc 37)
  (h:∀ g W1,Below W.heap.size W W1→W.heap.size≤g→W1.heap[g]?=some (.cells #[.slice none 0 0,.int .i64 0,.int .i64 0,.slice none 0 0,.slice none 0 0,.int .i64 0,.slice none 0 0] 37 (0,0))→K (a.put o.dst (.pointer (some ⟨g,0,none⟩))) W1) :
  if Region.wanted o (yielded ops a.tmps)=true then Oper.wp Tryz.prog o a W K Q else E:=by
 rw[if_pos (by simp[Region.wanted,hgd])];have:=h _ _ (Bw W (.cells #[.slice none 0 0,.int .i64 0,.int .i64 0,.slice none 0 0,.slice none 0 0,.int .i64 0,.slice none 0 0] 37)) (Nl _) (Bv W _);obtain⟨dst,op,type,pos,after,guard⟩:=o;dsimp only at ho;subst ho;go_simp
 exact this
end
theorem Bj{w W:World}{N g:Nat}(hb:Below N w W)(hg:N≤g){t:TypeId}{x0 x1 x2 x3 x4 x5 x6:Value}(h:W.heap[g]?=some (.cells #[x0,x1,x2,x3,x4,x5,x6] t (0,0)))(v0 v1 v2 v3 v4 v5 v6:Value):∀ W',
  W'=((((((W.setCell ⟨g,0,none⟩ v0).setCell ⟨g,1,none⟩ v1).setCell ⟨g,2,none⟩ v2).setCell ⟨g,3,none⟩ v3).setCell ⟨g,4,none⟩ v4).setCell ⟨g,5,none⟩ v5).setCell ⟨g,6,none⟩ v6 →
  W'.heap[g]?=some (.cells #[v0,v1,v2,v3,v4,v5,v6] t (0,0))∧Below N w W'∧∀ j,j≠g→W'.heap[j]?=W.heap[j]?:=by
 rintro W' rfl;have sb:∀ (W:World) (i:Nat) (x:Value),Below N w W→Below N w (W.setCell ⟨g,i,none⟩ x):=fun W i x h=>h.setCell (show N≤g from hg) x
 have h1:(W.setCell ⟨g,0,none⟩ v0).heap[g]?=some (.cells #[v0,x1,x2,x3,x4,x5,x6] t (0,0)):=Bs h 0 v0;have h2:((W.setCell ⟨g,0,none⟩ v0).setCell ⟨g,1,none⟩ v1).heap[g]?=some (.cells #[v0,v1,x2,x3,x4,x5,x6] t (0,0)):=Bs h1 1 v1;have h3:(((W.setCell ⟨g,0,none⟩ v0).setCell ⟨g,1,none⟩ v1).setCell ⟨g,2,none⟩ v2).heap[g]?=some (.cells #[v0,v1,v2,x3,x4,x5,x6] t (0,0)):=Bs h2 2 v2;have h4:((((W.setCell ⟨g,0,none⟩ v0).setCell ⟨g,1,none⟩ v1).setCell ⟨g,2,none⟩ v2).setCell ⟨g,3,none⟩ v3).heap[g]?=some (.cells #[v0,v1,v2,v3,x4,x5,x6] t (0,0)):=Bs h3 3 v3;have h5:(((((W.setCell ⟨g,0,none⟩ v0).setCell ⟨g,1,none⟩ v1).setCell ⟨g,2,none⟩ v2).setCell ⟨g,3,none⟩ v3).setCell ⟨g,4,none⟩ v4).heap[g]?=some (.cells #[v0,v1,v2,v3,v4,x5,x6] t (0,0)):=Bs h4 4 v4;have h6:((((((W.setCell ⟨g,0,none⟩ v0).setCell ⟨g,1,none⟩ v1).setCell ⟨g,2,none⟩ v2).setCell ⟨g,3,none⟩ v3).setCell ⟨g,4,none⟩ v4).setCell ⟨g,5,none⟩ v5).heap[g]?=some (.cells #[v0,v1,v2,v3,v4,v5,x6] t (0,0)):=Bs h5 5 v5;have h7:(((((((W.setCell ⟨g,0,none⟩ v0).setCell ⟨g,1,none⟩ v1).setCell ⟨g,2,none⟩ v2).setCell ⟨g,3,none⟩ v3).setCell ⟨g,4,none⟩ v4).setCell ⟨g,5,none⟩ v5).setCell ⟨g,6,none⟩ v6).heap[g]?=some (.cells #[v0,v1,v2,v3,v4,v5,v6] t (0,0)):=Bs h6 6 v6;refine⟨h7,sb _ _ _ (sb _ _ _ (sb _ _ _ (sb _ _ _ (sb _ _ _ (sb _ _ _ (sb _ _ _ hb)))))),fun j hj=>?_⟩;have fr:∀ (W:World) (i:Nat) (v:Value),(W.setCell ⟨g,i,none⟩ v).heap[j]?=W.heap[j]?:=fun W i v=>Below.heap_setCell W ⟨g,i,none⟩ v j hj
 exact(fr _ _ _).trans ((fr _ _ _).trans ((fr _ _ _).trans ((fr _ _ _).trans ((fr _ _ _).trans ((fr _ _ _).trans (fr _ _ _))))))
theorem SpB.far{w W:World}{N p g i:Nat}{B C D:Option Addr}{n1 n2 n3 k1 k2 k3:Nat}{each:Int}{cs:Array Value}{t:TypeId}(h:SpB w W N p B C D n1 n2 n3 k1 k2 k3 each)(v:Value)(hg:N≤g)(hc:W.heap[g]?=some (.cells cs t (0,0)))(ht:t≠37) :
  SpB w (W.setCell ⟨g,i,none⟩ v) N p B C D n1 n2 n3 k1 k2 k3 each:=by
 have ne:∀ {j:Nat} {cs':Array Value},W.heap[j]?=some (.cells cs' 37 (0,0))→j≠g:=fun hj e=>by
  subst e;rw[hc]at hj;cases hj;exact ht rfl
 exact⟨h.b.setCell (show N≤g from hg) v,(Below.heap_setCell W ⟨g,i,none⟩ v _ (ne h.c)).trans h.c,(Below.heap_setCell W ⟨g,i,none⟩ v _ (ne h.q)).trans h.q,h.ne⟩
def HRow(W:World)(v:Value)(t:TypeId)(cs:List Value):Prop :=
 (cs=[]∧∃ A c,v=.slice A 0 c)∨∃ (g c:Nat) (arr:Array Value),v=.slice (some ⟨g,0,none⟩) cs.length c∧cs.length≤c∧0<cs.length∧W.heap[g]?=some (.cells arr t (0,0))∧∀ (j:Nat) (u:Value),cs[j]?=some u→arr[j]?=some u
theorem HRow.keep{W W1:World}{v:Value}{t:TypeId}{cs:List Value}(h:HRow W v t cs)(hb:Below W.heap.size W W1):HRow W1 v t cs:=by
 rcases h with h |⟨g,c,arr,h1,h2,h3,h4,h5⟩
 ·exact .inl h
 ·exact .inr ⟨g,c,arr,h1,h2,h3,Bk hb h4,h5⟩
theorem HRow.far{W:World}{v x:Value}{t t':TypeId}{cs:List Value}{g i:Nat}{arr:Array Value}(h:HRow W v t cs)(hg:W.heap[g]?=some (.cells arr t' (0,0)))(ht:t≠t'):HRow (W.setCell ⟨g,i,none⟩ x) v t cs:=by
 rcases h with h |⟨g',c,arr',h1,h2,h3,h4,h5⟩
 ·exact .inl h
 ·refine .inr ⟨g',c,arr',h1,h2,h3,(Below.heap_setCell W ⟨g,i,none⟩ x g' (fun e=>?_)).trans h4,h5⟩;have e':g'=g:=e;subst e';rw[hg]at h4;cases h4;exact ht rfl
theorem HRow.rd{W:World}{v:Value}{t:TypeId}{cs:List Value}(h:HRow W v t cs):BA W v cs.length cs:=by
 rcases h with ⟨rfl,h⟩ |⟨g,c,arr,h1,h2,h3,h4,h5⟩
 ·exact .inl ⟨rfl,h⟩
 ·exact .inr ⟨g,c,h1,h2,h3,fun j u hj=>(Bc h4 j).trans (h5 j u hj)⟩
theorem HRow.rdn{W:World}{v:Value}{t:TypeId}{f:Int→Value}{xs:List Int}(h:HRow W v t (xs.map f)):BA W v xs.length (xs.map f):=by
 have:=h.rd
 rwa [List.length_map]at this
theorem HRow.new{W:World}{g n:Nat}{t:TypeId}{arr:Array Value}(cs:List Value)(hg:W.heap[g]?=some (.cells arr t (0,0)))(hn:cs.length=n)(h0:0<n)(h:∀ (j:Nat) (u:Value),cs[j]?=some u→arr[j]?=some u):HRow W (.slice (some ⟨g,0,none⟩) n n) t cs:=by
 subst hn;exact .inr ⟨g,_,arr,rfl,Nl _,h0,hg,h⟩
def SpecHas(w:World)(T:List UInt8)(ss is rs:List Int)(each:Int)(e:Ending)(W:World):Prop :=
 ∃ va vs vi vr:Value,e=.returned (.tuple #[.agg #[va,.int .i64 (At T).1.lock,.int .i64 (At T).1.unlock,vs,vi,.int .i64 each,vr],.int .i64 0]) ∧
  BN W w.heap.size va (At T).1.l∧HRow W vs 3 (ss.map (Value.int .i64))∧HRow W vi 45 (is.map (Value.int .u32))∧HRow W vr 45 (rs.map (Value.int .u32))∧Below w.heap.size w W
theorem SpB.finH{w W:World}{N p:Nat}{B C D:Option Addr}{n1 n2 n3 k1 k2 k3:Nat}{each:Int}(h:SpB w W N p B C D n1 n2 n3 k1 k2 k3 each){t:TypeId}{v va:Value}{cs:List Value}(l u:Int)(hr:HRow W v t cs)(ht:t≠37):∀ W',
  W'=(((((((((W.setCell ⟨p,0,none⟩ va).setCell ⟨p,1,none⟩ (.int .i64 l)).setCell ⟨p,2,none⟩ (.int .i64 u)).setCell ⟨N,0,none⟩ va).setCell ⟨N,1,none⟩ (.int .i64 l)).setCell ⟨N,2,none⟩ (.int .i64 u)).setCell ⟨N,3,none⟩ (.slice B n1 k1)).setCell ⟨N,4,none⟩ (.slice C n2 k2)).setCell ⟨N,5,none⟩ (.int .i64 each)).setCell ⟨N,6,none⟩ (.slice D n3 k3) →
  HRow W' v t cs:=by
 rintro W' rfl;have hne:=h.ne;have far:∀ {W:World} {i:Nat} {o:Obj} (v:Value),W.heap[N]?=some o→(W.setCell ⟨p,i,none⟩ v).heap[N]?=some o:=fun v hj=>(Below.heap_setCell _ ⟨_,_,none⟩ v _ (show N≠p by omega)).trans hj
 have p0:=h.q;have p1:=Bs p0 0 va;have p2:=Bs p1 1 (.int .i64 l);have n0:=far (i:=2) (.int .i64 u) (far (i:=1) (.int .i64 l) (far (i:=0) va h.c));have m1:=Bs n0 0 va;have m2:=Bs m1 1 (.int .i64 l);have m3:=Bs m2 2 (.int .i64 u);have m4:=Bs m3 3 (.slice B n1 k1);have m5:=Bs m4 4 (.slice C n2 k2);have m6:=Bs m5 5 (.int .i64 each);have r1:=hr.far (i:=0) (x:=va) p0 ht;have r2:=r1.far (i:=1) (x:=.int .i64 l) p1 ht;have r3:=r2.far (i:=2) (x:=.int .i64 u) p2 ht;have r4:=r3.far (i:=0) (x:=va) n0 ht;have r5:=r4.far (i:=1) (x:=.int .i64 l) m1 ht;have r6:=r5.far (i:=2) (x:=.int .i64 u) m2 ht;have r7:=r6.far (i:=3) (x:=.slice B n1 k1) m3 ht;have r8:=r7.far (i:=4) (x:=.slice C n2 k2) m4 ht;have r9:=r8.far (i:=5) (x:=.int .i64 each) m5 ht;exact r9.far (i:=6) (x:=.slice D n3 k3) m6 ht
section
variable {ops:Array Oper} {o:Oper} {a:Act} {K:Act→World→Prop} {Q:Exit→Act→World→Prop} {E:Prop} {W:World}
theorem step_mkz(hgd:o.guard=none)(x:Operand)(ho:o.op=.makeSlice 27 x x)(z:Int)(hx:a.eval x=.int .i64 z)(k:Nat)(hz:z=k)(hk:k≤1000000)
  (h:∀ g W1 cs,Below W.heap.size W W1→W.heap.size≤g→W1.heap[g]?=some (.cells cs 45 (0,0))→(cs.size=k∧∀ j,j<k→cs[j]?=some (.int .u32 0))→K (a.put o.dst (.slice (some ⟨g,0,none⟩) k k)) W1) :
  if Region.wanted o (yielded ops a.tmps)=true then Oper.wp Tryz.prog o a W K Q else E:=by
 rw[if_pos (by simp[Region.wanted,hgd])];subst hz;obtain⟨cs,hcs,hc0,hmk⟩:=G2 k hk;unfold Oper.wp execOp;simp only[ho,hx,hmk,Sem.run_bind,Result.andThen_ok];exact h _ _ cs (Bw W _) (Nl _) (Bv W _) ⟨hcs,hc0⟩
theorem step_h2(hgd:o.guard=none)(p0 p1:Operand)(ho:o.op=.buildSlice 26 2 #[(0,p0),(1,p1)])(x0 x1:Int)(h0:a.eval p0=.int .i64 x0)(h1:a.eval p1=.int .i64 x1)
  (h:∀ g W1,Below W.heap.size W W1→W1.heap[g]?=some (.cells #[.int .i64 x0,.int .i64 x1] 3 (0,0))→K (a.put o.dst (.slice (some ⟨g,0,none⟩) 2 2)) W1) :
  if Region.wanted o (yielded ops a.tmps)=true then Oper.wp Tryz.prog o a W K Q else E:=by
 rw[if_pos (by simp[Region.wanted,hgd])];obtain⟨i9,hi,hz0,hz1,hz2⟩:=info_parts DX;refine wp_buildSlice 26 3 2 _ ho #[.int .i64 x0,.int .i64 x1] i9 (.int .i64 0) Tryz.underlying26 hi hz0 (by rw[hz1];decide) (by rw[hz1];decide) ?_ (h _ _ (Bw W _) (Bv W _));rw[hz1];simp only[List.map_toArray,List.map_cons,List.map_nil,h0,h1]
 kernel_rfl
theorem step_h3(hgd:o.guard=none)(p0 p1 p2:Operand)(ho:o.op=.buildSlice 26 3 #[(0,p0),(1,p1),(2,p2)])(x0 x1 x2:Int)(h0:a.eval p0=.int .i64 x0)(h1:a.eval p1=.int .i64 x1)(h2:a.eval p2=.int .i64 x2)
  (h:∀ g W1,Below W.heap.size W W1→W1.heap[g]?=some (.cells #[.int .i64 x0,.int .i64 x1,.int .i64 x2] 3 (0,0))→K (a.put o.dst (.slice (some ⟨g,0,none⟩) 3 3)) W1) :
  if Region.wanted o (yielded ops a.tmps)=true then Oper.wp Tryz.prog o a W K Q else E:=by
 rw[if_pos (by simp[Region.wanted,hgd])];obtain⟨i9,hi,hz0,hz1,hz2⟩:=info_parts DX;refine wp_buildSlice 26 3 3 _ ho #[.int .i64 x0,.int .i64 x1,.int .i64 x2] i9 (.int .i64 0) Tryz.underlying26 hi hz0 (by rw[hz1];decide) (by rw[hz1];decide) ?_ (h _ _ (Bw W _) (Bv W _));rw[hz1];simp only[List.map_toArray,List.map_cons,List.map_nil,h0,h1,h2]
 kernel_rfl
theorem step_h4(hgd:o.guard=none)(p0 p1 p2 p3:Operand)(ho:o.op=.buildSlice 26 4 #[(0,p0),(1,p1),(2,p2),(3,p3)])(x0 x1 x2 x3:Int)(h0:a.eval p0=.int .i64 x0)(h1:a.eval p1=.int .i64 x1)(h2:a.eval p2=.int .i64 x2)(h3:a.eval p3=.int .i64 x3)
  (h:∀ g W1,Below W.heap.size W W1→W1.heap[g]?=some (.cells #[.int .i64 x0,.int .i64 x1,.int .i64 x2,.int .i64 x3] 3 (0,0))→K (a.put o.dst (.slice (some ⟨g,0,none⟩) 4 4)) W1) :
  if Region.wanted o (yielded ops a.tmps)=true then Oper.wp Tryz.prog o a W K Q else E:=by
 rw[if_pos (by simp[Region.wanted,hgd])];obtain⟨i9,hi,hz0,hz1,hz2⟩:=info_parts DX;refine wp_buildSlice 26 3 4 _ ho #[.int .i64 x0,.int .i64 x1,.int .i64 x2,.int .i64 x3] i9 (.int .i64 0) Tryz.underlying26 hi hz0 (by rw[hz1];decide) (by rw[hz1];decide) ?_ (h _ _ (Bw W _) (Bv W _));rw[hz1];simp only[List.map_toArray,List.map_cons,List.map_nil,h0,h1,h2,h3]
 kernel_rfl
end
theorem HRow.zeros{W:World}{g k:Nat}{arr:Array Value}(hg:W.heap[g]?=some (.cells arr 45 (0,0)))(h0:0<k)(h:∀ j,j<k→arr[j]?=some (.int .u32 0)):HRow W (.slice (some ⟨g,0,none⟩) k k) 45 ((List.replicate k (0:Int)).map (Value.int .u32)):=by
 refine HRow.new _ hg (by simp) h0 (fun j u hj=>?_);rw[List.map_replicate,List.getElem?_replicate]at hj;by_cases hl:j<k
 ·rw[if_pos hl]at hj;cases hj;exact h j hl
 ·rw[if_neg hl]at hj;cases hj
theorem seven_H{W:World}{g:Nat}{t t':TypeId}{x0 x1 x2 x3 x4 x5 x6:Value}{v:Value}{cs:List Value}(h:W.heap[g]?=some (.cells #[x0,x1,x2,x3,x4,x5,x6] t' (0,0)))(hr:HRow W v t cs)(ht:t≠t')(v0 v1 v2 v3 v4 v5 v6:Value):∀ W',
  W'=((((((W.setCell ⟨g,0,none⟩ v0).setCell ⟨g,1,none⟩ v1).setCell ⟨g,2,none⟩ v2).setCell ⟨g,3,none⟩ v3).setCell ⟨g,4,none⟩ v4).setCell ⟨g,5,none⟩ v5).setCell ⟨g,6,none⟩ v6→HRow W' v t cs:=by
 rintro W' rfl;have h1:(W.setCell ⟨g,0,none⟩ v0).heap[g]?=some (.cells #[v0,x1,x2,x3,x4,x5,x6] t' (0,0)):=Bs h 0 v0;have r1:=HRow.far (i:=0) (x:=v0) hr h ht;have h2:((W.setCell ⟨g,0,none⟩ v0).setCell ⟨g,1,none⟩ v1).heap[g]?=some (.cells #[v0,v1,x2,x3,x4,x5,x6] t' (0,0)):=Bs h1 1 v1;have r2:=HRow.far (i:=1) (x:=v1) r1 h1 ht;have h3:(((W.setCell ⟨g,0,none⟩ v0).setCell ⟨g,1,none⟩ v1).setCell ⟨g,2,none⟩ v2).heap[g]?=some (.cells #[v0,v1,v2,x3,x4,x5,x6] t' (0,0)):=Bs h2 2 v2;have r3:=HRow.far (i:=2) (x:=v2) r2 h2 ht;have h4:((((W.setCell ⟨g,0,none⟩ v0).setCell ⟨g,1,none⟩ v1).setCell ⟨g,2,none⟩ v2).setCell ⟨g,3,none⟩ v3).heap[g]?=some (.cells #[v0,v1,v2,v3,x4,x5,x6] t' (0,0)):=Bs h3 3 v3;have r4:=HRow.far (i:=3) (x:=v3) r3 h3 ht;have h5:(((((W.setCell ⟨g,0,none⟩ v0).setCell ⟨g,1,none⟩ v1).setCell ⟨g,2,none⟩ v2).setCell ⟨g,3,none⟩ v3).setCell ⟨g,4,none⟩ v4).heap[g]?=some (.cells #[v0,v1,v2,v3,v4,x5,x6] t' (0,0)):=Bs h4 4 v4;have r5:=HRow.far (i:=4) (x:=v4) r4 h4 ht;have h6:((((((W.setCell ⟨g,0,none⟩ v0).setCell ⟨g,1,none⟩ v1).setCell ⟨g,2,none⟩ v2).setCell ⟨g,3,none⟩ v3).setCell ⟨g,4,none⟩ v4).setCell ⟨g,5,none⟩ v5).heap[g]?=some (.cells #[v0,v1,v2,v3,v4,v5,x6] t' (0,0)):=Bs h5 5 v5;have r6:=HRow.far (i:=5) (x:=v5) r5 h5 ht;have h7:(((((((W.setCell ⟨g,0,none⟩ v0).setCell ⟨g,1,none⟩ v1).setCell ⟨g,2,none⟩ v2).setCell ⟨g,3,none⟩ v3).setCell ⟨g,4,none⟩ v4).setCell ⟨g,5,none⟩ v5).setCell ⟨g,6,none⟩ v6).heap[g]?=some (.cells #[v0,v1,v2,v3,v4,v5,v6] t' (0,0)):=Bs h6 6 v6;have r7:=HRow.far (i:=6) (x:=v6) r6 h6 ht;exact r7
theorem HRow.off{W:World}{v x:Value}{t:TypeId}{cs:List Value}{g i:Nat}(h:HRow W v t cs)(hne:∀ g' n c,v=.slice (some ⟨g',0,none⟩) n c→g'≠g):HRow (W.setCell ⟨g,i,none⟩ x) v t cs:=by
 rcases h with h |⟨g',c,arr',h1,h2,h3,h4,h5⟩
 ·exact .inl h
 ·exact .inr ⟨g',c,arr',h1,h2,h3,(Below.heap_setCell W ⟨g,i,none⟩ x g' (hne _ _ _ h1)).trans h4,h5⟩
theorem HRow.put{W:World}{x:Value}{t:TypeId}{cs:List Value}{g i n c:Nat}(h:HRow W (.slice (some ⟨g,0,none⟩) n c) t cs):HRow (W.setCell ⟨g,i,none⟩ x) (.slice (some ⟨g,0,none⟩) n c) t (cs.set i x):=by
 rcases h with ⟨rfl,h⟩ |⟨g',c',arr',h1,h2,h3,h4,h5⟩
 ·exact .inl ⟨rfl,h⟩
 ·have e:g=g':=by injection h1 with a;injection a with a;injection a
  subst e;refine .inr ⟨g,c',_,by rw[List.length_set];exact h1,by rw[List.length_set];exact h2,by rw[List.length_set];exact h3,Bs h4 i x,fun j u hj=>?_⟩;by_cases hji:i=j
  ·subst hji;have hlt:i<(cs.set i x).length:=(List.getElem?_eq_some_iff.1 hj).1;rw[List.length_set]at hlt;rw[List.getElem?_set_self hlt]at hj;cases hj;have hs:i<arr'.size:=by
    have:=h5 i cs[i] (List.getElem?_eq_getElem hlt);exact(Array.getElem?_eq_some_iff.1 this).1
   simp[hs]
  ·rw[List.getElem?_set_ne hji]at hj;rw[Array.getElem?_setIfInBounds_ne hji];exact h5 j u hj
theorem ticketSpec_has(k:Nat)(st:Int)(h1:1≤k)(h2:k≤64)(w:World)(he:Env w):Calls Tryz.prog 50 #[.int .i64 (k:Int),.int .u32 st] w (SpecHas w ticketT [1,1] [st,st] (List.replicate k (0:Int)) 0):=by
 have hd1:decide ((k:Int)<1)=false:=decide_eq_false (by omega);have hd2:decide ((64:Int)<(k:Int))=false:=decide_eq_false (by omega);obtain⟨cs,hcs,hz,hmk⟩:=G2 k (by omega);replace hz:=Az hz;have CT:=Az (fun W=>ticketText_calls W);have CA:=Az (fun(W:World) (heW:Env W)=>C9 ticketT W heW ticket_len);go_enter Tryz.func50,Tryz.ntmps50;have hN:=Bv w (.cells #[.slice none 0 0,.int .i64 0,.int .i64 0,.slice none 0 0,.slice none 0 0,.int .i64 0,.slice none 0 0] 37);have hb0:=Bw w (.cells #[.slice none 0 0,.int .i64 0,.int .i64 0,.slice none 0 0,.slice none 0 0,.int .i64 0,.slice none 0 0] 37);obtain⟨w0,hw0⟩:∃ y,w.alloc (.cells #[.slice none 0 0,.int .i64 0,.int .i64 0,.slice none 0 0,.slice none 0 0,.int .i64 0,.slice none 0 0] 37)=y:=⟨_,rfl⟩
 rw[hw0]at hN hb0;go_upto_region 3 with fail
 try rw[hw0]
 replace hN:=Az hN;replace hb0:=Az hb0;clear hw0;go_cut [6] (fun v wx=>∃ (p:Nat) (B C D:Option Addr) (n1 n2 k1 k2 k3:Nat),v=.pointer (some ⟨p,0,none⟩)∧Ai (SpB w wx w.heap.size p B C D n1 n2 k k1 k2 k3 0)∧Ai (HRow wx (.slice B n1 k1) 3 (([1,1]:List Int).map (Value.int .i64))∧HRow wx (.slice C n2 k2) 45 (([st,st]:List Int).map (Value.int .u32))∧HRow wx (.slice D k k3) 45 ((List.replicate k (0:Int)).map (Value.int .u32))))
 case first =>
  go_wp2;go_meet
  have hlt:=Bl hN.out;refine⟨_,some ⟨w0.heap.size,0,none⟩,some ⟨w0.heap.size+1,0,none⟩,some ⟨w0.heap.size+1+1,0,none⟩,2,2,2,2,k,rfl,⟨⟨?_,?_,?_,?_⟩⟩,⟨?_,?_,?_⟩⟩
  ·exact(((hb0.out.trans ((Bw w0 _).mono hb0.out.size)).alloc (by simp;omega) _).alloc (by simp;omega) _).alloc (by simp;omega) _
  ·exact As (As (As (As hN.out _) _) _) _
  ·exact BU (by simp) _
  ·omega
  ·exact HRow.new (([1,1]:List Int).map (Value.int .i64)) (As (As (As (Bv w0 _) _) _) _) rfl (by simp) (fun j u hj=>by simpa using hj)
  ·exact HRow.new (([st,st]:List Int).map (Value.int .u32)) (As (As (BU (by simp) _) _) _) rfl (by simp) (fun j u hj=>by simpa using hj)
  ·exact HRow.zeros (As (BU (by simp) _) _) (by omega) hz.out
 case rest =>
  obtain⟨p,B,C,D,n1,n2,k1,k2,k3,rfl,hB,hH⟩:=hcut;go_wp2_with fail
  refine(CT.out _).mono ?_;rintro e w1 ⟨rfl,rfl⟩;go_wp2_with fail
  refine(CA.out _ (he.below hB.out.b)).mono ?_;rintro e w2 ⟨va,rfl,hr,hb⟩;have hB2:=hB.out.keep hb;have hr2:=hr.mono hB.out.b.size;obtain⟨A,mm,c,rfl⟩:=AB hr;have x1:=Az (hB2.finH (va:=.slice A mm c) (At ticketT).1.lock (At ticketT).1.unlock (hH.out.1.keep hb) (by decide));have x2:=Az (hB2.finH (va:=.slice A mm c) (At ticketT).1.lock (At ticketT).1.unlock (hH.out.2.1.keep hb) (by decide));have x3:=Az (hB2.finH (va:=.slice A mm c) (At ticketT).1.lock (At ticketT).1.unlock (hH.out.2.2.keep hb) (by decide));have hfin:=Az (hB2.fin (At ticketT).1.lock (At ticketT).1.unlock hr2);have c0:w2.cell? ⟨p,0,none⟩=some (.slice none 0 0):=(Bc hB2.q 0).trans rfl;have c1:w2.cell? ⟨p,1,none⟩=some (.int .i64 0):=(Bc hB2.q 1).trans rfl;have c2:w2.cell? ⟨p,2,none⟩=some (.int .i64 0):=(Bc hB2.q 2).trans rfl;have c3:w2.cell? ⟨p,3,none⟩=some (.slice B n1 k1):=(Bc hB2.q 3).trans rfl;have c4:w2.cell? ⟨p,4,none⟩=some (.slice C n2 k2):=(Bc hB2.q 4).trans rfl;have c5:w2.cell? ⟨p,5,none⟩=some (.int .i64 0):=(Bc hB2.q 5).trans rfl;have c6:w2.cell? ⟨p,6,none⟩=some (.slice D k k3):=(Bc hB2.q 6).trans rfl;have f0:=Bf hB2.q 0;have f1:=Bf hB2.q 1;have f2:=Bf hB2.q 2;have d0:w2.cell? ⟨w.heap.size,0,none⟩=some (.slice none 0 0):=(Bc hB2.c 0).trans rfl;have d1:w2.cell? ⟨w.heap.size,1,none⟩=some (.int .i64 0):=(Bc hB2.c 1).trans rfl;have d2:w2.cell? ⟨w.heap.size,2,none⟩=some (.int .i64 0):=(Bc hB2.c 2).trans rfl;have d3:w2.cell? ⟨w.heap.size,3,none⟩=some (.slice none 0 0):=(Bc hB2.c 3).trans rfl;have d4:w2.cell? ⟨w.heap.size,4,none⟩=some (.slice none 0 0):=(Bc hB2.c 4).trans rfl;have d5:w2.cell? ⟨w.heap.size,5,none⟩=some (.int .i64 0):=(Bc hB2.c 5).trans rfl;have d6:w2.cell? ⟨w.heap.size,6,none⟩=some (.slice none 0 0):=(Bc hB2.c 6).trans rfl;have e0:=Bf hB2.c 0;have e1:=Bf hB2.c 1;have e2:=Bf hB2.c 2;have e3:=Bf hB2.c 3;have e4:=Bf hB2.c 4;have e5:=Bf hB2.c 5;have e6:=Bf hB2.c 6;have z0:w.heap.size<w2.heap.size:=Bl hB2.c;have zp:p<w2.heap.size:=Bl hB2.q;have ne0:¬w.heap.size=p:=Nat.ne_of_lt hB2.ne;have ne1:¬p=w.heap.size:=Nat.ne_of_gt hB2.ne;clear hH hB hB2 hr hr2 hb CT CA;go_wp2;obtain⟨g1,g2,g3⟩:=hfin.out _ rfl;refine bodyPost_ret (Ah rfl _ _ w.heap.size 37 #[.slice A mm c,.int .i64 (At ticketT).1.lock,.int .i64 (At ticketT).1.unlock,.slice B n1 k1,.slice C n2 k2,.int .i64 0,.slice D k k3] (0,0) _ rfl g1 Tryz.underlying37 rfl (by kernel_rfl)) rfl ⟨_,_,_,_,rfl,g2,x1.out _ rfl,x2.out _ rfl,x3.out _ rfl,g3⟩
theorem ML{W:World}{g i:Nat}{a:Addr}{y v:Value}(hg:g≠a.block)(h:W.drew.cell? a=some y):(W.setCell ⟨g,i,none⟩ v).drew.cell? a=some y :=
 (World.cell?_setCell_far W ⟨g,i,none⟩ a v hg).trans h
theorem H4{M:Nat}(h:Iw M):(⟨PW.toArray⟩:ByteArray).size+Lib.countB ⟨PW.toArray⟩ ⟨P6.toArray⟩*(⟨(JK M).toArray⟩:ByteArray).size≤140737488355328:=by
 rcases h with rfl |rfl |rfl |rfl |rfl |rfl |rfl<;>decide +kernel
theorem Fp{M:Nat}(hM:Iw M)(W:World)(he:Env W):Calls Tryz.prog 21 #[.int .i64 ((M:Int)+1)] W fun e W'=>e=.returned (.string ⟨(DA M).toArray⟩)∧Below W.heap.size W W':=by
 have hmt:=DN hM;have hwa:IntKind.i64.wrap ((M:Int)+1-1)=(M:Int):=by rw[IntKind.wrap_i64];omega
 have hr:=NM hM;have CI:=Az (fun(W:World) (heW:Env W)=>Fi (M:Int) (by omega) (by omega) W heW);have CR:=Az (fun(W:World) (heW:Env W)=>Tryz.strings_ReplaceAll_shaped ⟨PW.toArray⟩ ⟨P6.toArray⟩ ⟨(JK M).toArray⟩ W heW.shaped (by decide +kernel) (by decide) (H4 hM));have hd:Lib.decDigits ((M:Int)).toNat=JK M:=KO hM;simp only[hd]at CI;have e1:Lib.replaceAll (⟨PW.toArray⟩:ByteArray).data.toList (⟨P6.toArray⟩:ByteArray).data.toList (⟨(JK M).toArray⟩:ByteArray).data.toList=DA M:=hr;rw[e1]at CR;clear hr e1 hd;replace he:=Az he;go_enter Tryz.func21,Tryz.ntmps21;go_wp2_with fail
 refine(CI.out _ he.out).mono ?_;rintro e w1 ⟨rfl,hb1⟩;replace hb1:=Az hb1;go_wp2_with fail
 refine(CR.out _ (he.out.below hb1.out)).mono ?_;rintro e w2 ⟨rfl,hb2⟩;replace hb1:=Az (hb1.out.trans (hb2.mono hb1.out.size));clear hb2 CI CR;go_wp2;go_ret;exact⟨rfl,hb1.out⟩
theorem FU(k M st:Nat)(hM:Iw M)(hst:st<4294967296)(h1:1≤k)(h2:k≤M+1)(w:World)(he:Env w):Calls Tryz.prog 17 #[.int .i64 (k:Int),.int .i64 ((M:Int)+1),.int .u32 (st:Int)] w (SpecHas w (DA M) [1,(M:Int)+1] (Nu M st) (List.replicate k (0:Int)) 0):=by
 have hmt:=DN hM;have hd1:decide ((k:Int)<1)=false:=decide_eq_false (by omega);have hd2:decide ((64:Int)<(k:Int))=false:=decide_eq_false (by omega);have hd3:decide ((M:Int)+1<(k:Int))=false:=decide_eq_false (by omega);have hd4:decide ((64:Int)<(M:Int)+1)=false:=decide_eq_false (by omega);have hwa:IntKind.i64.wrap ((M:Int)+1-1)=(M:Int):=by rw[IntKind.wrap_i64];omega
 have hwh:IntKind.i64.wrap (M:Int)=(M:Int):=by rw[IntKind.wrap_i64];omega
 have hwb:IntKind.i64.wrap ((M:Int)+1+1)=(M:Int)+2:=by rw[IntKind.wrap_i64];omega
 have hwc:=Pc hM;have hwd:IntKind.i64.wrap (st:Int)=(st:Int):=by rw[IntKind.wrap_i64];omega
 have hwe:=ME hM hst;obtain⟨P,hP⟩:∃ x,st%(M+1)=x:=⟨_,rfl⟩
 have hPM:P≤M:=by have h9:st%(M+1)<M+1:=Nat.mod_lt st (Nat.succ_pos M);omega
 obtain⟨Q,hQ⟩:∃ x,1+P=x:=⟨_,rfl⟩
 have hQM:1≤Q∧Q≤M+1:=by omega
 have hq1:¬(0:Nat)=Q:=by omega
 have hq2:¬Q=0:=by omega
 have hwf:IntKind.i64.wrap (1+(P:Int))=(Q:Int):=by rw[IntKind.wrap_i64];omega
 rw[hP]at hwe;have hZ:Nu M st=((List.replicate (M+2) (0:Int)).set 0 (st:Int)).set Q 1:=by unfold Nu;rw[hP,hQ]
 rw[hZ];clear hZ hP hQ;have CT:=Az (fun(W:World) (heW:Env W)=>Fp hM W heW);have CA:=Az (fun(W:World) (heW:Env W)=>C9 (DA M) W heW (MD hM));have hN:=Bv w (.cells #[.slice none 0 0,.int .i64 0,.int .i64 0,.slice none 0 0,.slice none 0 0,.int .i64 0,.slice none 0 0] 37);have hb0:=Bw w (.cells #[.slice none 0 0,.int .i64 0,.int .i64 0,.slice none 0 0,.slice none 0 0,.int .i64 0,.slice none 0 0] 37);obtain⟨w0,hw0⟩:∃ y,w.alloc (.cells #[.slice none 0 0,.int .i64 0,.int .i64 0,.slice none 0 0,.slice none 0 0,.int .i64 0,.slice none 0 0] 37)=y:=⟨_,rfl⟩
 rw[hw0]at hN hb0;go_enter Tryz.func17,Tryz.ntmps17;go_upto_region 3 with fail
 try rw[hw0]
 clear hw0;go_cut [8] (fun v wx=>∃ (p:Nat) (B C D:Option Addr) (n1 n2 k1 k2 k3:Nat),v=.pointer (some ⟨p,0,none⟩)∧Ai (SpB w wx w.heap.size p B C D n1 n2 k k1 k2 k3 (0))∧Ai (HRow wx (.slice B n1 k1) 3 (([1,(M:Int)+1]).map (Value.int .i64))∧HRow wx (.slice C n2 k2) 45 ((List.replicate (M+2) (0:Int)).map (Value.int .u32))∧HRow wx (.slice D k k3) 45 ((List.replicate k (0:Int)).map (Value.int .u32)))∧(∀ (g n c:Nat),Value.slice D k k3=.slice (some ⟨g,0,none⟩) n c→C≠some ⟨g,0,none⟩)∧∃ (gM:Nat) (csM:Array Value),C=some ⟨gM,0,none⟩∧n2=M+2∧w.heap.size≤gM∧Ai (wx.heap[gM]?=some (.cells csM 45 (0,0))∧csM.size=M+2))
 case first =>
  refine Aw [] (S:=fun _=>True) (by kernel_rfl) trivial (fun _=>?_);replace hN:=Bk (Bd (Below.refl _ w0)) hN;have hBl:=hb0.trans ((Bd (Below.refl _ w0)).mono hb0.size);clear hb0 CT CA;generalize w0.drew=w0 at *;refine tY 0 (fun _=>trivial) ?_;refine tY 2 (fun _=>trivial) ?_;refine tY 3 (fun _=>trivial) ?_;refine tY 5 (fun _=>trivial) ?_;iterate 4
   all_goals try
    refine Ax (i:=7) (v:=?_) (Ac rfl) (by decide +kernel) (fun _ _ _ h=>h) (.inl ⟨by rfl,?_⟩) (fun _=>trivial) ?_;rotate_left
    ·intro w;go_simp;try with_reducible rfl
    try simp only[Act.put,Sa,Sb,Sc]
   all_goals first
    |refine Ab (rs:=[1,4,6,8]) (by decide +kernel) (by simp) (Aa.cons (Ac rfl) (fun K hK=>?_) (Aa.cons (Ac rfl) (fun K hK=>?_) (Aa.cons (Ac rfl) (fun K hK=>?_) (Aa.cons (Ac rfl) (fun K hK=>?_) Aa.nil))))
    |refine Ab (rs:=[1,4,6]) (by decide +kernel) (by simp) (Aa.cons (Ac rfl) (fun K hK=>?_) (Aa.cons (Ac rfl) (fun K hK=>?_) (Aa.cons (Ac rfl) (fun K hK=>?_) Aa.nil)))
    |refine Ab (rs:=[1,4,8]) (by decide +kernel) (by simp) (Aa.cons (Ac rfl) (fun K hK=>?_) (Aa.cons (Ac rfl) (fun K hK=>?_) (Aa.cons (Ac rfl) (fun K hK=>?_) Aa.nil)))
    |refine Ab (rs:=[1,6,8]) (by decide +kernel) (by simp) (Aa.cons (Ac rfl) (fun K hK=>?_) (Aa.cons (Ac rfl) (fun K hK=>?_) (Aa.cons (Ac rfl) (fun K hK=>?_) Aa.nil)))
    |refine Ab (rs:=[4,6,8]) (by decide +kernel) (by simp) (Aa.cons (Ac rfl) (fun K hK=>?_) (Aa.cons (Ac rfl) (fun K hK=>?_) (Aa.cons (Ac rfl) (fun K hK=>?_) Aa.nil)))
    |refine Ab (rs:=[1,4]) (by decide +kernel) (by simp) (Aa.cons (Ac rfl) (fun K hK=>?_) (Aa.cons (Ac rfl) (fun K hK=>?_) Aa.nil))
    |refine Ab (rs:=[1,6]) (by decide +kernel) (by simp) (Aa.cons (Ac rfl) (fun K hK=>?_) (Aa.cons (Ac rfl) (fun K hK=>?_) Aa.nil))
    |refine Ab (rs:=[1,8]) (by decide +kernel) (by simp) (Aa.cons (Ac rfl) (fun K hK=>?_) (Aa.cons (Ac rfl) (fun K hK=>?_) Aa.nil))
    |refine Ab (rs:=[4,6]) (by decide +kernel) (by simp) (Aa.cons (Ac rfl) (fun K hK=>?_) (Aa.cons (Ac rfl) (fun K hK=>?_) Aa.nil))
    |refine Ab (rs:=[4,8]) (by decide +kernel) (by simp) (Aa.cons (Ac rfl) (fun K hK=>?_) (Aa.cons (Ac rfl) (fun K hK=>?_) Aa.nil))
    |refine Ab (rs:=[6,8]) (by decide +kernel) (by simp) (Aa.cons (Ac rfl) (fun K hK=>?_) (Aa.cons (Ac rfl) (fun K hK=>?_) Aa.nil))
    |refine Ab (rs:=[1]) (by decide +kernel) (by simp) (Aa.cons (Ac rfl) (fun K hK=>?_) Aa.nil)
    |refine Ab (rs:=[4]) (by decide +kernel) (by simp) (Aa.cons (Ac rfl) (fun K hK=>?_) Aa.nil)
    |refine Ab (rs:=[6]) (by decide +kernel) (by simp) (Aa.cons (Ac rfl) (fun K hK=>?_) Aa.nil)
    |refine Ab (rs:=[8]) (by decide +kernel) (by simp) (Aa.cons (Ac rfl) (fun K hK=>?_) Aa.nil)
   all_goals first
    |(refine step_h2 rfl _ _ rfl _ _ rfl rfl (fun gB wL hb hBk=>?_);replace hN:=Bk hb hN;replace hBl:=hBl.trans (hb.mono hBl.size);(try replace hM:=Bk hb hM);(try replace hR:=Bk hb hR);(try replace hA:=Bk hb hA);clear hb)
    |(refine step_mkz rfl _ rfl _ rfl (M+2) (by omega) (by omega) (fun gM wL csM hb hgM hM hsM=>?_);(try have hMR:gM≠gR:=Nat.ne_of_gt (Nat.lt_of_lt_of_le (Bl hR) hgM));have hNM:=Nat.le_trans (Nat.le_of_lt (Bl hN)) hgM;replace hN:=Bk hb hN;replace hBl:=hBl.trans (hb.mono hBl.size);(try replace hBk:=Bk hb hBk);(try replace hR:=Bk hb hR);(try replace hA:=Bk hb hA);clear hb)
    |(refine step_mkz rfl _ rfl _ rfl k (by omega) (by omega) (fun gR wL csR hb hgR hR hsR=>?_);(try have hMR:gM≠gR:=Nat.ne_of_lt (Nat.lt_of_lt_of_le (Bl hM) hgR));replace hN:=Bk hb hN;replace hBl:=hBl.trans (hb.mono hBl.size);(try replace hBk:=Bk hb hBk);(try replace hM:=Bk hb hM);(try replace hA:=Bk hb hA);clear hb)
    |(refine Ea rfl rfl (fun p wL hb hgA hA=>?_);have hNp:=Nat.lt_of_lt_of_le (Bl hN) hgA;replace hN:=Bk hb hN;replace hBl:=hBl.trans (hb.mono hBl.size);(try replace hBk:=Bk hb hBk);(try replace hM:=Bk hb hM);(try replace hR:=Bk hb hR);clear hb)
   all_goals refine hK.out _ _ (fun _=>trivial) (fun _=>?_)
   all_goals clear hK K
   all_goals try simp only[Act.put,Sa,Sb,Sc]
  all_goals try
   refine Ax (i:=7) (v:=?_) (Ac rfl) (by decide +kernel) (fun _ _ _ h=>h) (.inl ⟨by rfl,?_⟩) (fun _=>trivial) ?_;rotate_left
   ·intro w;go_simp;try with_reducible rfl
   try simp only[Act.put,Sa,Sb,Sc]
  all_goals (
   have hMp:gM≠p:=fun e=>by subst e;rw[hA]at hM;cases hM
   have hfin:=Az (Bj hBl (Nat.le_of_lt hNp) hA (.slice none 0 0) (.int .i64 0) (.int .i64 0) (.slice (some ⟨gB,0,none⟩) 2 2) (.slice (some ⟨gM,0,none⟩) (M+2) (M+2)) (.int .i64 0) (.slice (some ⟨gR,0,none⟩) k k));have c0:wL.cell? ⟨p,0,none⟩=some (.slice none 0 0):=(Bc hA 0).trans rfl;have c1:wL.cell? ⟨p,1,none⟩=some (.int .i64 0):=(Bc hA 1).trans rfl;have c2:wL.cell? ⟨p,2,none⟩=some (.int .i64 0):=(Bc hA 2).trans rfl;have c3:wL.cell? ⟨p,3,none⟩=some (.slice none 0 0):=(Bc hA 3).trans rfl;have c4:wL.cell? ⟨p,4,none⟩=some (.slice none 0 0):=(Bc hA 4).trans rfl;have c5:wL.cell? ⟨p,5,none⟩=some (.int .i64 0):=(Bc hA 5).trans rfl;have c6:wL.cell? ⟨p,6,none⟩=some (.slice none 0 0):=(Bc hA 6).trans rfl;have f0:=Bf hA 0;have f1:=Bf hA 1;have f2:=Bf hA 2;have f3:=Bf hA 3;have f4:=Bf hA 4;have f5:=Bf hA 5;have f6:=Bf hA 6;have z0:p<wL.heap.size:=Bl hA;have r1:=HRow.new (([1,(M:Int)+1]).map (Value.int .i64)) hBk rfl (by simp) (fun j u hj=>by simpa using hj);have r2:=HRow.zeros hM (by omega) hsM.2;have r3:=HRow.zeros hR (by omega) hsR.2;have q1:=Az (seven_H hA r1 (by decide) (.slice none 0 0) (.int .i64 0) (.int .i64 0) (.slice (some ⟨gB,0,none⟩) 2 2) (.slice (some ⟨gM,0,none⟩) (M+2) (M+2)) (.int .i64 0) (.slice (some ⟨gR,0,none⟩) k k));have q2:=Az (seven_H hA r2 (by decide) (.slice none 0 0) (.int .i64 0) (.int .i64 0) (.slice (some ⟨gB,0,none⟩) 2 2) (.slice (some ⟨gM,0,none⟩) (M+2) (M+2)) (.int .i64 0) (.slice (some ⟨gR,0,none⟩) k k));have q3:=Az (seven_H hA r3 (by decide) (.slice none 0 0) (.int .i64 0) (.int .i64 0) (.slice (some ⟨gB,0,none⟩) 2 2) (.slice (some ⟨gM,0,none⟩) (M+2) (M+2)) (.int .i64 0) (.slice (some ⟨gR,0,none⟩) k k));have hsZ:=hsM.1;have hDC:=Az (show ∀ (g n c:Nat),Value.slice (some ⟨gR,0,none⟩) k k=.slice (some ⟨g,0,none⟩) n c→(some ⟨gM,0,none⟩:Option Addr)≠some ⟨g,0,none⟩ from fun g n c hD hC=>hMR (by injection hD with a;injection a with a;injection a with a;injection hC with b;injection b with b;exact b.trans a.symm));clear r1 r2 r3 hBk hR hsM hsR;replace hN:=Az hN;replace hM:=Az hM;replace hNp:=Az hNp;replace hMp:=Az hMp;clear hA hBl;refine Ab (rs:=[9]) (by kernel_rfl) (by simp) ?_;refine Aa.cons (Ac rfl) (fun K hK=>?_) Aa.nil;go_simp
   go_wp2_with fail
   refine hK.out _ _ (fun _=>trivial) (fun _=>?_);try simp only[Act.put,Sa,Sb,Sc]
   refine AL (by kernel_rfl) ?_ _;go_wp2;go_meet
   obtain⟨g1,g2,g3⟩:=hfin.out _ rfl;exact⟨p,some ⟨gB,0,none⟩,some ⟨gM,0,none⟩,some ⟨gR,0,none⟩,2,M+2,2,M+2,k,rfl,⟨⟨g2,(g3 _ (Nat.ne_of_lt hNp.out)).trans hN.out,g1,hNp.out⟩⟩,⟨q1.out _ rfl,q2.out _ rfl,q3.out _ rfl⟩,hDC.out,gM,csM,rfl,rfl,hNM,⟨(g3 gM hMp.out).trans hM.out,hsZ⟩⟩)
 case rest =>
  obtain⟨p,B,C,D,n1,n2,k1,k2,k3,rfl,hB,hH,hDC,gM,csM,rfl,rfl,hNM,hM⟩:=hcut;have x2:wc.cell? ⟨p,4,none⟩=some (.slice (some ⟨gM,0,none⟩) (M+2) k2):=(Bc hB.out.q 4).trans rfl;have hsz:0<csM.size:=by rw[hM.out.2];omega
  have hsz2:Q<csM.size:=by rw[hM.out.2];omega
  have y0:wc.cell? ⟨gM,0,none⟩=some csM[0]:=(Bc hM.out.1 0).trans (by simp[hsz]);have y1:wc.cell? ⟨gM,Q,none⟩=some csM[Q]:=(Bc hM.out.1 (Q)).trans (by simp[hsz2]);have fy0:=Bf hM.out.1 0;have fy1:=Bf hM.out.1 (Q);have zy:gM<wc.heap.size:=Bl hM.out.1;have hMp:gM≠p:=fun e=>by have h1:=hM.out.1;rw[e,hB.out.q]at h1;cases h1
  have hB8:=hB.out.far (g:=gM) (i:=0) (.int .u32 (st:Int)) hNM hM.out.1 (by decide);have hB9:=hB8.far (g:=gM) (i:=Q) (.int .u32 1) hNM (Bs hM.out.1 0 _) (by decide);replace hB9:=Az (hB9.keep (Bd (Below.refl _ _)));have y2:=(hH.out.2.1.put (i:=0) (x:=.int .u32 (st:Int))).put (i:=Q) (x:=.int .u32 1);rw[←List.map_set,←List.map_set]at y2;have y3:=(hH.out.1.far (g:=gM) (i:=0) (x:=.int .u32 (st:Int)) hM.out.1 (by decide)).far (g:=gM) (i:=Q) (x:=.int .u32 1) (Bs hM.out.1 0 _) (by decide);have y4:=(hH.out.2.2.off (g:=gM) (i:=0) (x:=.int .u32 (st:Int)) (fun g n c e1 e2=>hDC g n c e1 (by rw[e2]))).off (g:=gM) (i:=Q) (x:=.int .u32 1) (fun g n c e1 e2=>hDC g n c e1 (by rw[e2]));have hH9:=Az (And.intro (y3.keep (Bd (Below.refl _ _))) (And.intro (y2.keep (Bd (Below.refl _ _))) (y4.keep (Bd (Below.refl _ _)))));clear y2 y3 y4 hH hDC;generalize csM[0]=v0 at y0;generalize csM[Q]=v1 at y1;clear hM hB hsz hsz2 hB8;have hS:wc.drew.cell? ⟨p,4,none⟩=some (.slice (some ⟨gM,0,none⟩) (M+2) k2):=x2;have hs0:(0:Int)<((M+2:Nat):Int):=by omega
  have hs4:(0:Int)<(M:Int)+2:=by omega
  have hs5:(Q:Int)<(M:Int)+2:=by omega
  have hs6:0<M+2:=by omega
  have hs1:(Q:Int)<((M+2:Nat):Int):=by omega
  have hs2:(0:Int)≤(Q:Int):=by omega
  go_upto_region 4 with fail
  go_region_held3 (fun W=>W.cell? ⟨p,4,none⟩=some (.slice (some ⟨gM,0,none⟩) (M+2) k2)) (first |(with_reducible exact hS) |(with_reducible exact ML hMp (by assumption))) (first |fail)
  replace hB:=hB9;have hH:=hH9;clear hH9;clear hB9 x2 y0 y1 fy0 fy1 zy hS hs0 hs1 hs2 hs4 hs5 hs6;generalize ((wc.setCell ⟨gM,0,none⟩ (.int .u32 (st:Int))).setCell ⟨gM,Q,none⟩ (.int .u32 1)).drew=wc at *;go_wp2_with fail
  refine(CT.out _ (he.below hB.out.b)).mono ?_;rintro e w1 ⟨rfl,hb1⟩;replace hB:=Az (hB.out.keep hb1);replace hH:=Az (And.intro (hH.out.1.keep hb1) (And.intro (hH.out.2.1.keep hb1) (hH.out.2.2.keep hb1)));clear hb1;go_wp2_with fail
  refine(CA.out _ (he.below hB.out.b)).mono ?_;rintro e w2 ⟨va,rfl,hr,hb⟩;have hB2:=hB.out.keep hb;have hr2:=hr.mono hB.out.b.size;obtain⟨A,mm,c,rfl⟩:=AB hr;have x1:=Az (hB2.finH (va:=.slice A mm c) (At (DA M)).1.lock (At (DA M)).1.unlock (hH.out.1.keep hb) (by decide));have x2:=Az (hB2.finH (va:=.slice A mm c) (At (DA M)).1.lock (At (DA M)).1.unlock (hH.out.2.1.keep hb) (by decide));have x3:=Az (hB2.finH (va:=.slice A mm c) (At (DA M)).1.lock (At (DA M)).1.unlock (hH.out.2.2.keep hb) (by decide));have hfin:=Az (hB2.fin (At (DA M)).1.lock (At (DA M)).1.unlock hr2);have c0:w2.cell? ⟨p,0,none⟩=some (.slice none 0 0):=(Bc hB2.q 0).trans rfl;have c1:w2.cell? ⟨p,1,none⟩=some (.int .i64 0):=(Bc hB2.q 1).trans rfl;have c2:w2.cell? ⟨p,2,none⟩=some (.int .i64 0):=(Bc hB2.q 2).trans rfl;have c3:w2.cell? ⟨p,3,none⟩=some (.slice B n1 k1):=(Bc hB2.q 3).trans rfl;have c4:w2.cell? ⟨p,4,none⟩=some (.slice (some ⟨gM,0,none⟩) (M+2) k2):=(Bc hB2.q 4).trans rfl;have c5:w2.cell? ⟨p,5,none⟩=some (.int .i64 0):=(Bc hB2.q 5).trans rfl;have c6:w2.cell? ⟨p,6,none⟩=some (.slice D k k3):=(Bc hB2.q 6).trans rfl;have f0:=Bf hB2.q 0;have f1:=Bf hB2.q 1;have f2:=Bf hB2.q 2;have d0:w2.cell? ⟨w.heap.size,0,none⟩=some (.slice none 0 0):=(Bc hB2.c 0).trans rfl;have d1:w2.cell? ⟨w.heap.size,1,none⟩=some (.int .i64 0):=(Bc hB2.c 1).trans rfl;have d2:w2.cell? ⟨w.heap.size,2,none⟩=some (.int .i64 0):=(Bc hB2.c 2).trans rfl;have d3:w2.cell? ⟨w.heap.size,3,none⟩=some (.slice none 0 0):=(Bc hB2.c 3).trans rfl;have d4:w2.cell? ⟨w.heap.size,4,none⟩=some (.slice none 0 0):=(Bc hB2.c 4).trans rfl;have d5:w2.cell? ⟨w.heap.size,5,none⟩=some (.int .i64 0):=(Bc hB2.c 5).trans rfl;have d6:w2.cell? ⟨w.heap.size,6,none⟩=some (.slice none 0 0):=(Bc hB2.c 6).trans rfl;have e0:=Bf hB2.c 0;have e1:=Bf hB2.c 1;have e2:=Bf hB2.c 2;have e3:=Bf hB2.c 3;have e4:=Bf hB2.c 4;have e5:=Bf hB2.c 5;have e6:=Bf hB2.c 6;have z0:w.heap.size<w2.heap.size:=Bl hB2.c;have zp:p<w2.heap.size:=Bl hB2.q;have ne0:¬w.heap.size=p:=Nat.ne_of_lt hB2.ne;have ne1:¬p=w.heap.size:=Nat.ne_of_gt hB2.ne;clear hH hB hB2 hr hr2 hb CT CA;go_wp2;obtain⟨g1,g2,g3⟩:=hfin.out _ rfl;refine bodyPost_ret (Ah rfl _ _ w.heap.size 37 #[.slice A mm c,.int .i64 (At (DA M)).1.lock,.int .i64 (At (DA M)).1.unlock,.slice B n1 k1,.slice (some ⟨gM,0,none⟩) (M+2) k2,.int .i64 0,.slice D k k3] (0,0) _ rfl g1 Tryz.underlying37 rfl (by kernel_rfl)) rfl ⟨_,_,_,_,rfl,g2,x1.out _ rfl,x2.out _ rfl,x3.out _ rfl,g3⟩
theorem Gu(n sl st:Int)(h:¬Lz n sl)(w:World):Calls Tryz.prog 17 #[.int .i64 n,.int .i64 sl,.int .u32 st] w (DS w):=by
 have hN:=Bv w (.cells #[.slice none 0 0,.int .i64 0,.int .i64 0,.slice none 0 0,.slice none 0 0,.int .i64 0,.slice none 0 0] 37);have hb0:=Bw w (.cells #[.slice none 0 0,.int .i64 0,.int .i64 0,.slice none 0 0,.slice none 0 0,.int .i64 0,.slice none 0 0] 37);have hfin:=Dl hb0 hN;obtain⟨w0,hw0⟩:∃ y,w.alloc (.cells #[.slice none 0 0,.int .i64 0,.int .i64 0,.slice none 0 0,.slice none 0 0,.int .i64 0,.slice none 0 0] 37)=y:=⟨_,rfl⟩
 rw[hw0]at hfin hN;have d0:w0.cell? ⟨w.heap.size,0,none⟩=some (.slice none 0 0):=(Bc hN 0).trans rfl;have d1:w0.cell? ⟨w.heap.size,1,none⟩=some (.int .i64 0):=(Bc hN 1).trans rfl;have d2:w0.cell? ⟨w.heap.size,2,none⟩=some (.int .i64 0):=(Bc hN 2).trans rfl;have d3:w0.cell? ⟨w.heap.size,3,none⟩=some (.slice none 0 0):=(Bc hN 3).trans rfl;have d4:w0.cell? ⟨w.heap.size,4,none⟩=some (.slice none 0 0):=(Bc hN 4).trans rfl;have d5:w0.cell? ⟨w.heap.size,5,none⟩=some (.int .i64 0):=(Bc hN 5).trans rfl;have d6:w0.cell? ⟨w.heap.size,6,none⟩=some (.slice none 0 0):=(Bc hN 6).trans rfl;have e0:=Bf hN 0;have e1:=Bf hN 1;have e2:=Bf hN 2;have e3:=Bf hN 3;have e4:=Bf hN 4;have e5:=Bf hN 5;have e6:=Bf hN 6;have z0:w.heap.size<w0.heap.size:=Bl hN;replace hfin:=Az hfin;clear hN hb0;go_enter Tryz.func17,Tryz.ntmps17;go_upto_region 1 with fail
 try rw[hw0]
 clear hw0;go_cut [30] (fun v wx=>v=.bool true∧wx=w0)
 case first =>
  by_cases c1:n<1
  ·have hd1:decide (n<1)=true:=decide_eq_true c1;go_wp2;go_meet
   exact⟨rfl,rfl⟩
  have hd1:decide (n<1)=false:=decide_eq_false c1;by_cases c2:64<n
  ·have hd2:decide (64<n)=true:=decide_eq_true c2;go_wp2;go_meet
   exact⟨rfl,rfl⟩
  have hd2:decide (64<n)=false:=decide_eq_false c2;by_cases c3:sl<n
  ·have hd3:decide (sl<n)=true:=decide_eq_true c3;go_wp2;go_meet
   exact⟨rfl,rfl⟩
  have hd3:decide (sl<n)=false:=decide_eq_false c3;by_cases c4:64<sl
  ·have hd4:decide (64<sl)=true:=decide_eq_true c4;go_wp2;go_meet
   exact⟨rfl,rfl⟩
  have hd4:decide (64<sl)=false:=decide_eq_false c4;have hwa:IntKind.i64.wrap (sl-1)=sl-1:=by rw[IntKind.wrap_i64];omega
  have hwc:=Pd h (by omega) (by omega) (by omega);have hwb:(bits .and .i64 sl (sl-1) != 0)=true:=bne_iff_ne.2 hwc;go_wp2;go_meet
  exact⟨rfl,rfl⟩
 case rest =>
  obtain⟨rfl,rfl⟩:=hcut;go_wp2;obtain⟨g1,g2⟩:=hfin.out _ rfl;refine bodyPost_ret (Ah rfl _ _ w.heap.size 37 #[.slice none 0 0,.int .i64 0,.int .i64 0,.slice none 0 0,.slice none 0 0,.int .i64 0,.slice none 0 0] (0,0) _ rfl g1 Tryz.underlying37 rfl (by kernel_rfl)) rfl ⟨rfl,g2⟩
end
end Go.Proofs.YtjjpiefgdggghaaGreatDoor

/- Parts: SpecStep, SpecRows, RefAsm. -/
import Derived.Test.YtjjpiefgdggghaaGreatDoorA03
import Derived.Test.YtjjpiefgdggghaaGreatDoorA23
import Derived.Test.YtjjpiefgdggghaaGreatDoorA13
import Derived.Test.YtjjpiefgdggghaaGreatDoorA30
import Derived.Deep.RegionHeld3
set_option linter.unusedVariables false
set_option linter.unusedSimpArgs false
set_option maxRecDepth 100000
set_option maxHeartbeats 40000000
namespace Go.Proofs.YtjjpiefgdggghaaGreatDoor
section
open Go.RowKit Go.Proofs.YtjjpiefgdggghaaGreatDoorW.PrintWords
section
variable {ops:Array Oper} {o:Oper} {a:Act} {K:Act→World→Prop} {Q:Exit→Act→World→Prop} {E:Prop} {W:World}
theorem Re(hgd:o.guard=none)(ho:o.op=.alloc 37)
  (h:∀ g W1,Below W.heap.size W W1→W.heap.size≤g→W1.heap[g]?=some (.cells #[.slice none 0 0,.int .i64 0,.int .i64 0,.slice none 0 0,.slice none 0 0,.int .i64 0,.slice none 0 0] 37 (0,0))→K (a.put o.dst (.pointer (some ⟨g,0,none⟩))) W1) :
  if Region.wanted o (yielded ops a.tmps)=true then Oper.wp Tryz.prog o a W K Q else E:=by
 rw[if_pos (by simp[Region.wanted,hgd])];have:=h _ _ (Bw W (.cells #[.slice none 0 0,.int .i64 0,.int .i64 0,.slice none 0 0,.slice none 0 0,.int .i64 0,.slice none 0 0] 37)) (Nl _) (Bv W _);obtain⟨dst,op,type,pos,after,guard⟩:=o;dsimp only at ho;subst ho;go_simp
 exact this
end
theorem KH{w W:World}{N g:Nat}(hb:Below N w W)(hg:N≤g){t:TypeId}{x0 x1 x2 x3 x4 x5 x6:Value}(h:W.heap[g]?=some (.cells #[x0,x1,x2,x3,x4,x5,x6] t (0,0)))(v0 v1 v2 v3 v4 v5 v6:Value):∀ W',
  W'=((((((W.setCell ⟨g,0,none⟩ v0).setCell ⟨g,1,none⟩ v1).setCell ⟨g,2,none⟩ v2).setCell ⟨g,3,none⟩ v3).setCell ⟨g,4,none⟩ v4).setCell ⟨g,5,none⟩ v5).setCell ⟨g,6,none⟩ v6 →
  W'.heap[g]?=some (.cells #[v0,v1,v2,v3,v4,v5,v6] t (0,0))∧Below N w W'∧∀ j,j≠g→W'.heap[j]?=W.heap[j]?:=by
 rintro W' rfl;have sb:∀ (W:World) (i:Nat) (x:Value),Below N w W→Below N w (W.setCell ⟨g,i,none⟩ x):=fun W i x h=>h.setCell (show N≤g from hg) x
 have h1:(W.setCell ⟨g,0,none⟩ v0).heap[g]?=some (.cells #[v0,x1,x2,x3,x4,x5,x6] t (0,0)):=Bs h 0 v0;have h2:((W.setCell ⟨g,0,none⟩ v0).setCell ⟨g,1,none⟩ v1).heap[g]?=some (.cells #[v0,v1,x2,x3,x4,x5,x6] t (0,0)):=Bs h1 1 v1;have h3:(((W.setCell ⟨g,0,none⟩ v0).setCell ⟨g,1,none⟩ v1).setCell ⟨g,2,none⟩ v2).heap[g]?=some (.cells #[v0,v1,v2,x3,x4,x5,x6] t (0,0)):=Bs h2 2 v2;have h4:((((W.setCell ⟨g,0,none⟩ v0).setCell ⟨g,1,none⟩ v1).setCell ⟨g,2,none⟩ v2).setCell ⟨g,3,none⟩ v3).heap[g]?=some (.cells #[v0,v1,v2,v3,x4,x5,x6] t (0,0)):=Bs h3 3 v3;have h5:(((((W.setCell ⟨g,0,none⟩ v0).setCell ⟨g,1,none⟩ v1).setCell ⟨g,2,none⟩ v2).setCell ⟨g,3,none⟩ v3).setCell ⟨g,4,none⟩ v4).heap[g]?=some (.cells #[v0,v1,v2,v3,v4,x5,x6] t (0,0)):=Bs h4 4 v4;have h6:((((((W.setCell ⟨g,0,none⟩ v0).setCell ⟨g,1,none⟩ v1).setCell ⟨g,2,none⟩ v2).setCell ⟨g,3,none⟩ v3).setCell ⟨g,4,none⟩ v4).setCell ⟨g,5,none⟩ v5).heap[g]?=some (.cells #[v0,v1,v2,v3,v4,v5,x6] t (0,0)):=Bs h5 5 v5;have h7:(((((((W.setCell ⟨g,0,none⟩ v0).setCell ⟨g,1,none⟩ v1).setCell ⟨g,2,none⟩ v2).setCell ⟨g,3,none⟩ v3).setCell ⟨g,4,none⟩ v4).setCell ⟨g,5,none⟩ v5).setCell ⟨g,6,none⟩ v6).heap[g]?=some (.cells #[v0,v1,v2,v3,v4,v5,v6] t (0,0)):=Bs h6 6 v6;refine⟨h7,sb _ _ _ (sb _ _ _ (sb _ _ _ (sb _ _ _ (sb _ _ _ (sb _ _ _ (sb _ _ _ hb)))))),fun j hj=>?_⟩;have fr:∀ (W:World) (i:Nat) (v:Value),(W.setCell ⟨g,i,none⟩ v).heap[j]?=W.heap[j]?:=fun W i v=>Below.heap_setCell W ⟨g,i,none⟩ v j hj
 exact(fr _ _ _).trans ((fr _ _ _).trans ((fr _ _ _).trans ((fr _ _ _).trans ((fr _ _ _).trans ((fr _ _ _).trans (fr _ _ _))))))
theorem SpB.far{w W:World}{N p g i:Nat}{B C D:Option Addr}{n1 n2 n3 k1 k2 k3:Nat}{each:Int}{cs:Array Value}{t:TypeId}(h:SpB w W N p B C D n1 n2 n3 k1 k2 k3 each)(v:Value)(hg:N≤g)(hc:W.heap[g]?=some (.cells cs t (0,0)))(ht:t≠37) :
  SpB w (W.setCell ⟨g,i,none⟩ v) N p B C D n1 n2 n3 k1 k2 k3 each:=by
 have ne:∀ {j:Nat} {cs':Array Value},W.heap[j]?=some (.cells cs' 37 (0,0))→j≠g:=fun hj e=>by
  subst e;rw[hc]at hj;cases hj;exact ht rfl
 exact⟨h.b.setCell (show N≤g from hg) v,(Below.heap_setCell W ⟨g,i,none⟩ v _ (ne h.c)).trans h.c,(Below.heap_setCell W ⟨g,i,none⟩ v _ (ne h.q)).trans h.q,h.ne⟩
def HRow(W:World)(v:Value)(t:TypeId)(cs:List Value):Prop :=
 (cs=[]∧∃ A c,v=.slice A 0 c)∨∃ (g c:Nat) (arr:Array Value),v=.slice (some ⟨g,0,none⟩) cs.length c∧cs.length≤c∧0<cs.length∧W.heap[g]?=some (.cells arr t (0,0))∧∀ (j:Nat) (u:Value),cs[j]?=some u→arr[j]?=some u
theorem HRow.keep{W W1:World}{v:Value}{t:TypeId}{cs:List Value}(h:HRow W v t cs)(hb:Below W.heap.size W W1):HRow W1 v t cs:=by
 rcases h with h |⟨g,c,arr,h1,h2,h3,h4,h5⟩
 ·exact .inl h
 ·exact .inr ⟨g,c,arr,h1,h2,h3,Bk hb h4,h5⟩
theorem HRow.far{W:World}{v x:Value}{t t':TypeId}{cs:List Value}{g i:Nat}{arr:Array Value}(h:HRow W v t cs)(hg:W.heap[g]?=some (.cells arr t' (0,0)))(ht:t≠t'):HRow (W.setCell ⟨g,i,none⟩ x) v t cs:=by
 rcases h with h |⟨g',c,arr',h1,h2,h3,h4,h5⟩
 ·exact .inl h
 ·refine .inr ⟨g',c,arr',h1,h2,h3,(Below.heap_setCell W ⟨g,i,none⟩ x g' (fun e=>?_)).trans h4,h5⟩;have e':g'=g:=e;subst e';rw[hg]at h4;cases h4;exact ht rfl
theorem HRow.rd{W:World}{v:Value}{t:TypeId}{cs:List Value}(h:HRow W v t cs):Bx W v cs.length cs:=by
 rcases h with ⟨rfl,h⟩ |⟨g,c,arr,h1,h2,h3,h4,h5⟩
 ·exact .inl ⟨rfl,h⟩
 ·exact .inr ⟨g,c,h1,h2,h3,fun j u hj=>(Bc h4 j).trans (h5 j u hj)⟩
theorem HRow.rdn{W:World}{v:Value}{t:TypeId}{f:Int→Value}{xs:List Int}(h:HRow W v t (xs.map f)):Bx W v xs.length (xs.map f):=by
 have:=h.rd
 rwa [List.length_map]at this
theorem HRow.new{W:World}{g n:Nat}{t:TypeId}{arr:Array Value}(cs:List Value)(hg:W.heap[g]?=some (.cells arr t (0,0)))(hn:cs.length=n)(h0:0<n)(h:∀ (j:Nat) (u:Value),cs[j]?=some u→arr[j]?=some u):HRow W (.slice (some ⟨g,0,none⟩) n n) t cs:=by
 subst hn;exact .inr ⟨g,_,arr,rfl,Nl _,h0,hg,h⟩
def SpecHas(w:World)(T:List UInt8)(ss is rs:List Int)(each:Int)(e:Ending)(W:World):Prop :=
 ∃ va vs vi vr:Value,e=.returned (.tuple #[.agg #[va,.int .i64 (BW T).1.lock,.int .i64 (BW T).1.unlock,vs,vi,.int .i64 each,vr],.int .i64 0]) ∧
  Cy W w.heap.size va (BW T).1.l∧HRow W vs 3 (ss.map (Value.int .i64))∧HRow W vi 45 (is.map (Value.int .u32))∧HRow W vr 45 (rs.map (Value.int .u32))∧Below w.heap.size w W
theorem SpB.finH{w W:World}{N p:Nat}{B C D:Option Addr}{n1 n2 n3 k1 k2 k3:Nat}{each:Int}(h:SpB w W N p B C D n1 n2 n3 k1 k2 k3 each){t:TypeId}{v va:Value}{cs:List Value}(l u:Int)(hr:HRow W v t cs)(ht:t≠37):∀ W',
  W'=(((((((((W.setCell ⟨p,0,none⟩ va).setCell ⟨p,1,none⟩ (.int .i64 l)).setCell ⟨p,2,none⟩ (.int .i64 u)).setCell ⟨N,0,none⟩ va).setCell ⟨N,1,none⟩ (.int .i64 l)).setCell ⟨N,2,none⟩ (.int .i64 u)).setCell ⟨N,3,none⟩ (.slice B n1 k1)).setCell ⟨N,4,none⟩ (.slice C n2 k2)).setCell ⟨N,5,none⟩ (.int .i64 each)).setCell ⟨N,6,none⟩ (.slice D n3 k3) →
  HRow W' v t cs:=by
 rintro W' rfl;have hne:=h.ne;have far:∀ {W:World} {i:Nat} {o:Obj} (v:Value),W.heap[N]?=some o→(W.setCell ⟨p,i,none⟩ v).heap[N]?=some o:=fun v hj=>(Below.heap_setCell _ ⟨_,_,none⟩ v _ (show N≠p by omega)).trans hj
 have p0:=h.q;have p1:=Bs p0 0 va;have p2:=Bs p1 1 (.int .i64 l);have n0:=far (i:=2) (.int .i64 u) (far (i:=1) (.int .i64 l) (far (i:=0) va h.c));have m1:=Bs n0 0 va;have m2:=Bs m1 1 (.int .i64 l);have m3:=Bs m2 2 (.int .i64 u);have m4:=Bs m3 3 (.slice B n1 k1);have m5:=Bs m4 4 (.slice C n2 k2);have m6:=Bs m5 5 (.int .i64 each);have r1:=hr.far (i:=0) (x:=va) p0 ht;have r2:=r1.far (i:=1) (x:=.int .i64 l) p1 ht;have r3:=r2.far (i:=2) (x:=.int .i64 u) p2 ht;have r4:=r3.far (i:=0) (x:=va) n0 ht;have r5:=r4.far (i:=1) (x:=.int .i64 l) m1 ht;have r6:=r5.far (i:=2) (x:=.int .i64 u) m2 ht;have r7:=r6.far (i:=3) (x:=.slice B n1 k1) m3 ht;have r8:=r7.far (i:=4) (x:=.slice C n2 k2) m4 ht;have r9:=r8.far (i:=5) (x:=.int .i64 each) m5 ht;exact r9.far (i:=6) (x:=.slice D n3 k3) m6 ht
section
variable {ops:Array Oper} {o:Oper} {a:Act} {K:Act→World→Prop} {Q:Exit→Act→World→Prop} {E:Prop} {W:World}
theorem step_mkz(hgd:o.guard=none)(x:Operand)(ho:o.op=.makeSlice 27 x x)(z:Int)(hx:a.eval x=.int .i64 z)(k:Nat)(hz:z=k)(hk:k≤1000000)
  (h:∀ g W1 cs,Below W.heap.size W W1→W.heap.size≤g→W1.heap[g]?=some (.cells cs 45 (0,0))→(cs.size=k∧∀ j,j<k→cs[j]?=some (.int .u32 0))→K (a.put o.dst (.slice (some ⟨g,0,none⟩) k k)) W1) :
  if Region.wanted o (yielded ops a.tmps)=true then Oper.wp Tryz.prog o a W K Q else E:=by
 rw[if_pos (by simp[Region.wanted,hgd])];subst hz;obtain⟨cs,hcs,hc0,hmk⟩:=Ui k hk;unfold Oper.wp execOp;simp only[ho,hx,hmk,Sem.run_bind,Result.andThen_ok];exact h _ _ cs (Bw W _) (Nl _) (Bv W _) ⟨hcs,hc0⟩
theorem step_h2(hgd:o.guard=none)(p0 p1:Operand)(ho:o.op=.buildSlice 26 2 #[(0,p0),(1,p1)])(x0 x1:Int)(h0:a.eval p0=.int .i64 x0)(h1:a.eval p1=.int .i64 x1)
  (h:∀ g W1,Below W.heap.size W W1→W1.heap[g]?=some (.cells #[.int .i64 x0,.int .i64 x1] 3 (0,0))→K (a.put o.dst (.slice (some ⟨g,0,none⟩) 2 2)) W1) :
  if Region.wanted o (yielded ops a.tmps)=true then Oper.wp Tryz.prog o a W K Q else E:=by
 rw[if_pos (by simp[Region.wanted,hgd])];obtain⟨i9,hi,hz0,hz1,hz2⟩:=info_parts EX;refine wp_buildSlice 26 3 2 _ ho #[.int .i64 x0,.int .i64 x1] i9 (.int .i64 0) Tryz.underlying26 hi hz0 (by rw[hz1];decide) (by rw[hz1];decide) ?_ (h _ _ (Bw W _) (Bv W _));rw[hz1];simp only[List.map_toArray,List.map_cons,List.map_nil,h0,h1]
 kernel_rfl
end
theorem HRow.zeros{W:World}{g k:Nat}{arr:Array Value}(hg:W.heap[g]?=some (.cells arr 45 (0,0)))(h0:0<k)(h:∀ j,j<k→arr[j]?=some (.int .u32 0)):HRow W (.slice (some ⟨g,0,none⟩) k k) 45 ((List.replicate k (0:Int)).map (Value.int .u32)):=by
 refine HRow.new _ hg (by simp) h0 (fun j u hj=>?_);rw[List.map_replicate,List.getElem?_replicate]at hj;by_cases hl:j<k
 ·rw[if_pos hl]at hj;cases hj;exact h j hl
 ·rw[if_neg hl]at hj;cases hj
theorem seven_H{W:World}{g:Nat}{t t':TypeId}{x0 x1 x2 x3 x4 x5 x6:Value}{v:Value}{cs:List Value}(h:W.heap[g]?=some (.cells #[x0,x1,x2,x3,x4,x5,x6] t' (0,0)))(hr:HRow W v t cs)(ht:t≠t')(v0 v1 v2 v3 v4 v5 v6:Value):∀ W',
  W'=((((((W.setCell ⟨g,0,none⟩ v0).setCell ⟨g,1,none⟩ v1).setCell ⟨g,2,none⟩ v2).setCell ⟨g,3,none⟩ v3).setCell ⟨g,4,none⟩ v4).setCell ⟨g,5,none⟩ v5).setCell ⟨g,6,none⟩ v6→HRow W' v t cs:=by
 rintro W' rfl;have h1:(W.setCell ⟨g,0,none⟩ v0).heap[g]?=some (.cells #[v0,x1,x2,x3,x4,x5,x6] t' (0,0)):=Bs h 0 v0;have r1:=HRow.far (i:=0) (x:=v0) hr h ht;have h2:((W.setCell ⟨g,0,none⟩ v0).setCell ⟨g,1,none⟩ v1).heap[g]?=some (.cells #[v0,v1,x2,x3,x4,x5,x6] t' (0,0)):=Bs h1 1 v1;have r2:=HRow.far (i:=1) (x:=v1) r1 h1 ht;have h3:(((W.setCell ⟨g,0,none⟩ v0).setCell ⟨g,1,none⟩ v1).setCell ⟨g,2,none⟩ v2).heap[g]?=some (.cells #[v0,v1,v2,x3,x4,x5,x6] t' (0,0)):=Bs h2 2 v2;have r3:=HRow.far (i:=2) (x:=v2) r2 h2 ht;have h4:((((W.setCell ⟨g,0,none⟩ v0).setCell ⟨g,1,none⟩ v1).setCell ⟨g,2,none⟩ v2).setCell ⟨g,3,none⟩ v3).heap[g]?=some (.cells #[v0,v1,v2,v3,x4,x5,x6] t' (0,0)):=Bs h3 3 v3;have r4:=HRow.far (i:=3) (x:=v3) r3 h3 ht;have h5:(((((W.setCell ⟨g,0,none⟩ v0).setCell ⟨g,1,none⟩ v1).setCell ⟨g,2,none⟩ v2).setCell ⟨g,3,none⟩ v3).setCell ⟨g,4,none⟩ v4).heap[g]?=some (.cells #[v0,v1,v2,v3,v4,x5,x6] t' (0,0)):=Bs h4 4 v4;have r5:=HRow.far (i:=4) (x:=v4) r4 h4 ht;have h6:((((((W.setCell ⟨g,0,none⟩ v0).setCell ⟨g,1,none⟩ v1).setCell ⟨g,2,none⟩ v2).setCell ⟨g,3,none⟩ v3).setCell ⟨g,4,none⟩ v4).setCell ⟨g,5,none⟩ v5).heap[g]?=some (.cells #[v0,v1,v2,v3,v4,v5,x6] t' (0,0)):=Bs h5 5 v5;have r6:=HRow.far (i:=5) (x:=v5) r5 h5 ht;have h7:(((((((W.setCell ⟨g,0,none⟩ v0).setCell ⟨g,1,none⟩ v1).setCell ⟨g,2,none⟩ v2).setCell ⟨g,3,none⟩ v3).setCell ⟨g,4,none⟩ v4).setCell ⟨g,5,none⟩ v5).setCell ⟨g,6,none⟩ v6).heap[g]?=some (.cells #[v0,v1,v2,v3,v4,v5,v6] t' (0,0)):=Bs h6 6 v6;have r7:=HRow.far (i:=6) (x:=v6) r6 h6 ht;exact r7
theorem HRow.off{W:World}{v x:Value}{t:TypeId}{cs:List Value}{g i:Nat}(h:HRow W v t cs)(hne:∀ g' n c,v=.slice (some ⟨g',0,none⟩) n c→g'≠g):HRow (W.setCell ⟨g,i,none⟩ x) v t cs:=by
 rcases h with h |⟨g',c,arr',h1,h2,h3,h4,h5⟩
 ·exact .inl h
 ·exact .inr ⟨g',c,arr',h1,h2,h3,(Below.heap_setCell W ⟨g,i,none⟩ x g' (hne _ _ _ h1)).trans h4,h5⟩
theorem HRow.put{W:World}{x:Value}{t:TypeId}{cs:List Value}{g i n c:Nat}(h:HRow W (.slice (some ⟨g,0,none⟩) n c) t cs):HRow (W.setCell ⟨g,i,none⟩ x) (.slice (some ⟨g,0,none⟩) n c) t (cs.set i x):=by
 rcases h with ⟨rfl,h⟩ |⟨g',c',arr',h1,h2,h3,h4,h5⟩
 ·exact .inl ⟨rfl,h⟩
 ·have e:g=g':=by injection h1 with a;injection a with a;injection a
  subst e;refine .inr ⟨g,c',_,by rw[List.length_set];exact h1,by rw[List.length_set];exact h2,by rw[List.length_set];exact h3,Bs h4 i x,fun j u hj=>?_⟩;by_cases hji:i=j
  ·subst hji;have hlt:i<(cs.set i x).length:=(List.getElem?_eq_some_iff.1 hj).1;rw[List.length_set]at hlt;rw[List.getElem?_set_self hlt]at hj;cases hj;have hs:i<arr'.size:=by
    have:=h5 i cs[i] (List.getElem?_eq_getElem hlt);exact(Array.getElem?_eq_some_iff.1 this).1
   simp[hs]
  ·rw[List.getElem?_set_ne hji]at hj;rw[Array.getElem?_setIfInBounds_ne hji];exact h5 j u hj
def Ue(w:World)(fin:Pg×Int×Int)(e:Ending)(w':World):Prop :=
 ∃ v,e=.returned (.tuple #[.agg #[v,.int .i64 fin.1.lock,.int .i64 fin.1.unlock],.int .i64 fin.2.1,.int .i64 fin.2.2])∧BA w' w.heap.size v fin.1.l∧Below w.heap.size w w'
theorem Ql(w:World)(fin:Pg×Int×Int)(a:Act)(W:World)(v:Value)(hd:a.defers=[])
  (h2:a.tmps.getD 2 undef=.pointer (some ⟨w.heap.size,0,none⟩))(h3:a.tmps.getD 3 undef=.int .i64 fin.2.1)(h4:a.tmps.getD 4 undef=.int .i64 fin.2.2)
  (c2:W.heap[w.heap.size]?=some (.cells #[v,.int .i64 fin.1.lock,.int .i64 fin.1.unlock] 25 (0,0)))(hr:BA W w.heap.size v fin.1.l)(hb:Below w.heap.size w W) :
  bodyPost Tryz.prog Tryz.f33 (Ue w fin) .ret a W :=
 bodyPost_ret (CJ rfl _ _ w.heap.size _ #[v,.int .i64 fin.1.lock,.int .i64 fin.1.unlock] (0,0) _ h2 c2 Tryz.underlying25 rfl (by kernel_rfl)) hd ⟨v,by rw[h3,h4],hr,hb⟩
section
variable {ops:Array Oper} {rest:List Oper} {o:Oper} {a:Act} {Q:Exit→Act→World→Prop} {W:World}
theorem Uf(hgd:o.guard=none)(s x:Operand)(ho:o.op=.call {callee:=.builtin .append,args:=#[s,x],argTypes:=#[23,23]})
  (base g:Nat)(y:In)(v:Value)(xs:List In)(hs:a.eval s=v)(hr:BA W base v xs)(hx:a.eval x=.slice (some ⟨g,0,none⟩) 1 1)
  (hy:W.heap[g]?=some (.cells y.cs 114 (0,0)))(hl:xs.length≤1000000)(hb:base≤W.heap.size)
  (h:∀ v' W1,BA W1 base v' (xs++[y])→W.grownBy W1 v.ownBlock→wpList Tryz.prog ops Q rest (a.put o.dst v') W1) :
  wpList Tryz.prog ops Q (o::rest) a W:=by
 obtain⟨i9,hi,hz0,hz1,hz2⟩:=info_parts La;refine wpList_append_own_at _ hgd s x 23 ho base 114 i9 (.agg In.zero.cs) 8 64 Tryz.underlying23 hi hz0 hz1 hz2 rfl (by decide) v xs.length (AQ xs) hs hr ⟨g,0,none⟩ 1 1 y.cs.toList hx rfl ?_ ?_ ?_ ?_ hb ?_
 ·intro j u hj;rw[add_plain];exact(Bc hy j).trans (by simpa using hj)
 ·intro u hu;have:u∈y.cs.toList:=hu;simp[In.cs]at this;rcases this with rfl |rfl |rfl |rfl |rfl |rfl |rfl |rfl<;>rfl
 ·simp[maxLen];omega
 ·omega
 ·intro v' W1 h1 h2 _ h4;refine h v' W1 ?_ h2;unfold BA;rw[Fg,List.length_append];exact h1
end
theorem Ou(l:List UInt8)(i:Nat)(hi:i<l.length)(W:World):(Instr.index 9 (.string ⟨l.toArray⟩) (.int .i64 (i:Int))).run Tryz.prog W=.ok (.int .u8 ((l.getD i 0).toNat:Int)) W:=by
 rw[run_index_string W 9 _ .i64 i Tryz.underlying9,dif_pos ⟨by omega,by simp[ByteArray.size];omega⟩];have:(⟨l.toArray⟩:ByteArray)[(i:Int).toNat]'(by simp[ByteArray.size];omega)=l.getD i 0:=by
  simp[List.getD_eq_getElem?_getD,List.getElem?_eq_getElem hi];rfl
 rw[this]
theorem Ug(l:List UInt8)(f i:Nat)(hf:f≤i)(hi:i≤l.length)(W:World):(Instr.slice 9 (.string ⟨l.toArray⟩) (some (.int .i64 (f:Int))) (some (.int .i64 (i:Int))) none).run Tryz.prog W=.ok (.string ⟨((l.drop f).take (i-f)).toArray⟩) W:=by
 have hz:(⟨l.toArray⟩:ByteArray).size=l.length:=by simp[ByteArray.size]
 rw[run_slice_string W 9 ⟨l.toArray⟩ .i64 .i64 (f:Int) (i:Int) Tryz.underlying9 (by omega) (by omega) (by rw[hz];omega),D4];rfl
theorem N0(t:List UInt8)(w:World)(ht:t.length≤90000):Calls Tryz.prog 33 #[.string ⟨t.toArray⟩] w (Ue w (Cx t)):=by
 obtain⟨fin,hA⟩:∃ fin,Cx t=fin:=⟨_,rfl⟩
 rw[hA];have hstop:∀ {x:Src} {n e:Int},E8 (AP t) 0 Src.zero=(x,n,e)→e≠0→fin=(Pg.zero,n,e):=fun h he=>hA.symm.trans (OY h he)
 replace hstop:=Az (@hstop);replace hA:=Az hA;have hR0:=RX.start w;obtain⟨W0,hW0⟩:∃ x,((w.alloc (.cells #[.slice none 0 0,.int .i64 0,.int .i64 0] 25)).alloc (.cells #[.slice none 0 0,.int .i64 0,.int .i64 0] 25))=x:=⟨_,rfl⟩
 rw[hW0]at hR0;replace hR0:=Az hR0;go_enter Tryz.func33,Tryz.ntmps33;have hQ:=Az (fun a W v=>Ql w fin a W v);go_wp2_with fail
 try rw[hW0]
 try simp only[Nat.add_assoc,Nat.reduceAdd]
 go_loopw [6,7,8,9,10,11] (fun v6 v7 v8 v9 v10 v11 wr=>∃ (f n i:Nat) (x:Src) (v0:Value),v9=.int .i64 (f:Int)∧v10=.int .i64 (n:Int)∧v11=.int .i64 (i:Int)∧i≤t.length∧f≤i∧n≤i ∧
  Ag (E8 (AP t) 0 Src.zero=E8 (AP (t.drop f)) n x)∧Ag ((10:UInt8)∉(t.drop f).take (i-f))∧Ag (Hn x n)∧Ag (RX w wr w.heap.size v0 v6 v7 v8 x.l x.names x.rows x.labels)) (fun _ _ _ _ _ v11 _=>t.length-(intOf v11).toNat)
 case atStart=>exact⟨0,0,0,Src.zero,_,rfl,rfl,rfl,Nat.zero_le _,Nl _,Nl _,⟨rfl⟩,⟨by simp⟩,⟨⟨rfl,rfl,by simp[Src.zero],Nl _,fun s h=>by cases h⟩⟩,hR0⟩
 case round =>
  clear hR0 hW0;obtain⟨f,n,i,x,v0,rfl,rfl,rfl,hi,hfi,hni,hF,hno,hok,hR⟩:=hrel;by_cases hlt:i<t.length
  ·have hix:=fun W=>Ou t i hlt W
   have Lb:(0:Int)≤(i:Int):=by omega
   have hi1:(i:Int)<(t.length:Int):=by omega
   have Qm:IntKind.i64.wrap ((i:Int)+1)=(i:Int)+1:=by rw[IntKind.wrap_i64];omega
   by_cases h10:t.getD i 0=10
   ·have hb:(t.getD i 0).toNat=10:=by rw[h10];rfl
    rw[hb]at hix;have hline:=OZ (n:=(n:Int)) (x:=x) hlt hfi h10 hno.out;rw[←hF.out]at hline;have hsl:=fun W=>Ug t f i hfi hi W
    have hs1:((t.drop f).take (i-f)).length≤90000:=by rw[List.length_take,List.length_drop];omega
    have hf0:(0:Int)≤(f:Int):=by omega
    have hf1:(f:Int)≤(i:Int):=by omega
    have hi2:(i:Int)≤(t.length:Int):=by omega
    have hnw:IntKind.i64.wrap ((n:Int)+1)=(n:Int)+1:=by rw[IntKind.wrap_i64];omega
    generalize (t.drop f).take (i-f)=s at *;have hstep:=Az (Qn hok.out s ((n:Int)+1));have hdone:∀ {x':Src},DA x s ((n:Int)+1)=(x',0)→E8 (AP t) 0 Src.zero=E8 (AP (t.drop (i+1))) ((n+1:Nat):Int) x':=fun h=>by rw[hline,h,if_pos rfl];rfl
    have hbad:∀ {x':Src} {e:Int},DA x s ((n:Int)+1)=(x',e)→e≠0→fin=(Pg.zero,(n:Int)+1,e):=fun h he=>hstop.out (hline.trans (by rw[h,if_neg he])) he
    replace hdone:=Az (@hdone);replace hbad:=Az (@hbad);clear hF hno h10 hb hline;obtain⟨dd,hdd⟩:∃ D,decide (s.getLast?=some 58∧BY s.dropLast=true)=D:=⟨_,rfl⟩
    replace hdd:=Az hdd;go_upto_region 13 with fail
    go_cut [55] (fun v wx=>v=.bool dd∧Ag (RX w wx w.heap.size v0 u6 u7 u8 x.l x.names x.rows x.labels))
    case first =>
     clear hix hsl;by_cases hs0:0<s.length
     ·obtain⟨q,hq⟩:∃ q,s.length=q+1:=⟨s.length-1,by omega⟩
      have hs0':(0:Int)<(s.length:Int):=by omega
      have hlw:IntKind.i64.wrap ((s.length:Int)-1)=(q:Int):=by rw[IntKind.wrap_i64];omega
      have Nh:=fun W=>Ou s q (by omega) W
      have hq0:(0:Int)≤(q:Int):=by omega
      have hq1:(q:Int)<(s.length:Int):=by omega
      have hq2:(q:Int)≤(s.length:Int):=by omega
      have hgl:=St s q hq;have hs2:=fun W=>Ov s q hq W
      have he2:=Mj s q hq;have CN:=Az (fun W=>I3 s.dropLast W (by simp;omega));replace hdd:=hdd.out;rw[hgl]at hdd;generalize BY s.dropLast=nb at *;generalize s.dropLast=sd at *;clear hgl;replace hq:=Az hq;by_cases hc:s.getD q 0=58
      ·have hb:(s.getD q 0).toNat=58:=by rw[hc];rfl
       rw[hb]at Nh;rw[hc]at hdd;have hdn:dd=nb:=by rw[←hdd];cases nb<;>simp
       subst hdn;clear hb hc hdd;go_wp2_with fail
       refine(CN.out _).mono ?_;rintro e w2 ⟨rfl,hb2⟩;go_wp2;go_meet
       exact⟨rfl,⟨hR.out.keep hb2⟩⟩
      ·have hb:¬(s.getD q 0).toNat=58:=fun e=>hc (UInt8.toNat_inj.1 (by rw[e];rfl))
       rw[decide_eq_false (fun h=>hc (Option.some.inj h.1))]at hdd;subst hdd;clear hc;generalize (s.getD q 0).toNat=c at *;have hb1:¬(c:Int)=58:=by omega
       have hb2:((c:Int)==58)=false:=Bq hb1;go_wp2;go_meet
       exact⟨rfl,hR⟩
     ·have hs00:s=[]:=List.length_eq_zero_iff.1 (by omega);subst hs00;have hd0:dd=false:=by rw[←hdd.out];simp
      subst hd0;go_wp2;go_meet
      exact⟨rfl,hR⟩
    case rest =>
     obtain⟨rfl,hR⟩:=hcut;by_cases hlab:s.getLast?=some 58∧BY s.dropLast=true
     ·have hd1:dd=true:=by rw[←hdd.out];exact decide_eq_true hlab
      subst hd1;clear hdd;have hst:DA x s ((n:Int)+1)=if Jl x.labels s.dropLast=true then (x,2) else ({x with labels:=x.labels++[(s.dropLast,x.l.length)]},0):=by
       unfold DA;rw[if_pos hlab]
      obtain⟨q,hq⟩:∃ q,s.length=q+1:=⟨s.length-1,by
       have:s≠[]:=fun e=>by rw[e]at hlab;simp at hlab
       have:=List.length_pos_iff.2 this;omega⟩
      have hlw:IntKind.i64.wrap ((s.length:Int)-1)=(q:Int):=by rw[IntKind.wrap_i64];omega
      have hq0:(0:Int)≤(q:Int):=by omega
      have hq2:(q:Int)≤(s.length:Int):=by omega
      have hs2:=fun W=>Ov s q hq W
      have he2:=Mj s q hq;generalize s.dropLast=sd at *;replace hq:=Az hq;obtain⟨A,c,rfl⟩:=CM hR.out.q3;obtain⟨A0,c0,rfl⟩:=CM hR.out.q0;obtain⟨m,hm⟩:∃ m,x.labels.length=m:=⟨_,rfl⟩
      have hm9:m≤90000:=by have:=hok.out.b;omega
      rw[hm]at hR;replace hm:=Az hm;replace hst:=Az hst;clear hlab hix hsl;rw[hm.out];go_wp2_with fail
      go_loopw [58] (fun v58 wr2=>∃ k:Nat,v58=.int .i64 (k:Int)∧k≤m∧Ag (∀ p∈x.labels.take k,p.1≠sd)∧Ag (RX w wr2 w.heap.size (.slice A0 x.l.length c0) (.slice A m c) u7 u8 x.l x.names x.rows x.labels)) (fun v58 _=>m-(intOf v58).toNat)
      case atStart=>exact⟨0,rfl,Nat.zero_le _,⟨fun p h=>by cases h⟩,hR⟩
      case round =>
       obtain⟨k,rfl,hk,hnone,hR⟩:=hrel;by_cases hkm:k<m
       ·have hkx:k<x.labels.length:=by rw[hm.out];exact hkm
        have hq3:=hR.out.q3;unfold F9 at hq3;obtain⟨g,c',hv,hc,hg,_,hcell⟩:=Cw hq3 (by omega);have hAg:A=some ⟨g,0,none⟩:=by injection hv
        subst hAg;obtain⟨e1,e2⟩:=GO x.labels k hkx;have c1:=hcell _ _ e1;have c2:=hcell _ _ e2;have hnext:(x.labels[k]'hkx).1≠sd→∀ p∈x.labels.take (k+1),p.1≠sd:=fun h p hp=>by
         rw[List.take_succ_eq_append_getElem hkx]at hp;rcases List.mem_append.1 hp with hp |hp
         ·exact hnone.out p hp
         ·rw[List.mem_singleton.1 hp];exact h
        have hhit:(x.labels[k]'hkx).1=sd→Jl x.labels sd=true:=fun h=>by
         unfold Jl;rw[List.any_eq_true];exact⟨_,List.getElem_mem hkx,by simp[h]⟩
        generalize x.labels[k].1=nm at c1 hnext hhit;generalize x.labels[k].2=pl at c2;have hk0':(0:Int)≤(k:Int):=by omega
        have hk1:(k:Int)<(m:Int):=by omega
        have hkw:IntKind.i64.wrap ((k:Int)+1)=(k:Int)+1:=by rw[IntKind.wrap_i64];omega
        have hRa:=hR.out.keep (Bd (Bw wr (.cells #[.string ⟨nm.toArray⟩,.int .i64 (pl:Int)] 112)));have hbx:=(Bc (Be (Bv wr (.cells #[.string ⟨nm.toArray⟩,.int .i64 (pl:Int)] 112))) 0).trans rfl;replace hRa:=Az hRa;replace hnext:=Az hnext;replace hhit:=Az hhit;clear hcell hv e1 e2 hR hq3 hnone hc;go_wp2_with fail
        go_region_held3 (fun W=>W.cell? ⟨wr.heap.size,0,none⟩=some (.string ⟨nm.toArray⟩)) (first |exact hbx) (first |fail)
        obtain⟨W2,hW2⟩:∃ y,(wr.alloc (.cells #[.string ⟨nm.toArray⟩,.int .i64 (pl:Int)] 112)).drew=y:=⟨_,rfl⟩
        rw[hW2]at hRa;try rw[hW2]
        clear hbx c1 c2;by_cases hn:nm=sd
        ·have hfin:=hbad.out (hst.out.trans (if_pos (hhit.out hn))) (by decide);have hqq:(nm==sd)=true:=beq_iff_eq.2 hn;rw[hqq];subst hfin;obtain⟨y0,y1,y2,y3,y4,y5,y6⟩:=hRa.out.facts;clear hW2;go_wp2;obtain⟨g1,g2⟩:=hRa.out.Qo (.slice none 0 0) (.int .i64 0) (.int .i64 0) _ rfl;exact hQ.out _ _ _ rfl rfl rfl rfl g1 (.nil _ _) g2
        ·have hqq:(nm==sd)=false:=Bq hn;rw[hqq];replace hnext:=Az (hnext.out hn);clear hW2;go_wp2;go_roundw
         case rel=>exact⟨k+1,by go_num,hkm,hnext,hRa⟩
         case measure=>simp[intOf];omega
       ·obtain rfl:k=m:=by omega
        have hge:¬(k:Int)<(k:Int):=by omega
        have hno:Jl x.labels sd=false:=by
         have h1:=hnone.out;rw[←hm.out,List.take_length]at h1;unfold Jl;rw[List.any_eq_false];intro p hp
         simpa using h1 p hp
        have hst2:=hst.out.trans (if_neg (by rw[hno];simp));rw[hst2]at hstep;replace hdone:=Az (hdone.out hst2);have hl64:x.l.length≤64:=hok.out.l;have hS:=hR.out.Ib.1;clear hst2 hst hno hnone hbad;go_wp2_with fail
        refine Av [10] (S:=fun W=>W.cell? ⟨w.heap.size+1,0,none⟩=some (.slice A0 x.l.length c0)) (by kernel_rfl) hS (fun hS0=>?_);have hR5:=hR.out.keep (Bd (Below.refl _ _));clear hS;obtain⟨w5,hw5⟩:∃ y,wr.drew=y:=⟨_,rfl⟩
        rw[hw5]at hR5 hS0 ⊢;clear hw5;refine tY 0 (fun _=>by assumption) ?_;refine tY 1 (fun _=>by assumption) ?_;refine tY 2 (fun _=>by assumption) ?_;refine tY 3 (fun _=>by assumption) ?_;refine tY 4 (fun _=>by assumption) ?_;refine tY 5 (fun _=>by assumption) ?_;refine tY 6 (fun _=>by assumption) ?_;refine BZ (i:=7) (v:=?_) (Au rfl) (by kernel_rfl) (fun _ _ _ h=>h) (.inl ⟨by rfl,?_⟩) (by assumption) ?_;rotate_left
        ·intro w hSw;go_simp;try with_reducible rfl
        try simp only[Act.put,Sa,Sb,Sc]
        refine tY 8 (fun _=>by assumption) ?_;refine tY 9 (fun _=>by assumption) ?_;refine Ab (rs:=[10]) (by kernel_rfl) (by simp) ?_;refine Aa.cons (Au rfl) (fun K hK=>?_) Aa.nil;refine Qp rfl (.tmp 82) rfl sd x.l.length rfl (fun g10 w6 hb hy=>?_);have hR6:=hR5.keep hb;refine hK.out _ _ (fun h=>by cases h) (fun _=>?_);try simp only[Act.put,Sa,Sb,Sc]
        refine Ab (rs:=[11]) (by kernel_rfl) (by simp) ?_;refine Aa.cons (Au rfl) (fun K hK=>?_) Aa.nil;refine Qq rfl (.tmp 73) (.tmp 83) rfl w.heap.size g10 (sd,x.l.length) _ x.labels rfl hR6.q3 rfl hy (by rw[hm.out];omega) hR6.hz (fun u7' w7 hr hg ha=>?_);have hR7:=Az (hR6.a3 hr hg);refine hK.out _ _ (fun h=>by cases h) (fun _=>?_);try simp only[Act.put,Sa,Sb,Sc]
        clear hR5 hR6 hb hy hr hg ha hS0;refine tY 12 (fun h=>by cases h) ?_;refine Ax (by kernel_rfl) ?_ _;go_wp2;go_roundw
        case rel=>exact⟨i+1,n+1,i+1,_,_,by go_num,by go_num,by go_num,by omega,Nl _,by omega,hdone,⟨by simp⟩,hstep,hR7⟩
        case measure=>simp[intOf];omega
     ·have hd1:dd=false:=by rw[←hdd.out];exact decide_eq_false hlab
      subst hd1;have hst:DA x s ((n:Int)+1)=if (Dt s).2.2=false then (x,8) else if 64≤x.l.length then (x,9) else ({x with l:=x.l++[(Dt s).1],names:=x.names++[(Dt s).2.1],rows:=x.rows++[(n:Int)+1]},0):=by
       unfold DA;rw[if_neg hlab]
      have CL:=fun W=>Mk s W hs1
      generalize Dt s=r at hst CL;obtain⟨⟨op,d,s',t',u,a,k,q⟩,nm,ok⟩:=r;dsimp only at hst CL;dsimp only[In.v]at CL;replace CL:=Az CL;replace hst:=Az hst;obtain⟨A0,c0,rfl⟩:=CM hR.out.q0;clear hdd hix hsl hlab;go_wp2_with fail
      refine(CL.out _).mono ?_;rintro e w2 ⟨rfl,hb⟩;have hR3:=(hR.out.keep hb).keep (Bw w2 (.cells (In.cs ⟨op,d,s',t',u,a,k,q⟩) 114));have hbx:=Bv w2 (.cells (In.cs ⟨op,d,s',t',u,a,k,q⟩) 114);obtain⟨w3,hw3⟩:∃ y,w2.alloc (.cells (In.cs ⟨op,d,s',t',u,a,k,q⟩) 114)=y:=⟨_,rfl⟩
      obtain⟨g3,hg3⟩:∃ y,w2.heap.size=y:=⟨_,rfl⟩
      rw[hw3]at hR3 hbx;rw[hg3]at hbx;simp only[In.cs]at hw3;go_upto_region 22 with fail
      try rw[hw3]
      try rw[hg3]
      clear hw3 hg3 hR hb CL;replace hR3:=Az hR3;replace hbx:=Az hbx;obtain⟨y0,y1,y2,y3,y4,y5,y6⟩:=hR3.out.facts;obtain⟨k0,k1,k2,k3,k4,k5,k6⟩:=hR3.out.Ib;cases ok with
      |false =>
       have hfin:=hbad.out (hst.out.trans (if_pos rfl)) (by decide);subst hfin;go_wp2;obtain⟨g1,g2⟩:=hR3.out.Qo (.slice none 0 0) (.int .i64 0) (.int .i64 0) _ rfl;exact hQ.out _ _ _ rfl rfl rfl rfl g1 (.nil _ _) g2
      |true =>
       by_cases h64:64≤x.l.length
       ·have hfin:=hbad.out (hst.out.trans ((if_neg (by decide)).trans (if_pos h64))) (by decide);subst hfin;have h64a:decide (64≤(x.l.length:Int))=true:=decide_eq_true (by omega);go_wp2;obtain⟨g1,g2⟩:=hR3.out.Qo (.slice none 0 0) (.int .i64 0) (.int .i64 0) _ rfl;exact hQ.out _ _ _ rfl rfl rfl rfl g1 (.nil _ _) g2
       ·have hst2:=hst.out.trans ((if_neg (by decide)).trans (if_neg h64));rw[hst2]at hstep;replace hdone:=Az (hdone.out hst2);have h64a:decide (64≤(x.l.length:Int))=false:=decide_eq_false (by omega);have hnl:x.names.length≤64:=by rw[hok.out.n];exact hok.out.l
        have Nn:x.rows.length≤64:=by rw[hok.out.r];exact hok.out.l
        obtain⟨x0,x1,x2,x3,x4,x5,x6,x7⟩:=FK hbx.out;have hRa:=Az (hR3.out.keep (Bw w3 (.cells (In.cs ⟨op,d,s',t',u,a,k,q⟩) 114)));clear hst2 hst hbad y0 y1 y2 y3 y4 y5 y6;go_wp2_with (at_builtin;refine Uf rfl (.tmp 102) (.tmp 104) rfl w.heap.size w3.heap.size ⟨op,d,s',t',u,a,k,q⟩ (.slice A0 x.l.length c0) x.l rfl hRa.out.q0 rfl (Bv _ _) ?hl ?hb ?_)
        case hl=>omega
        case hb=>exact Nat.le_succ_of_le hR3.out.hz
        intro v1 w4 hr4 hg4;obtain⟨A1,c1,hv1⟩:=CM hr4;simp only[List.length_append,List.length_singleton]at hv1;subst hv1;have hR4:=hRa.out.a0 hr4 hg4;have hc5:=Bg hRa.out.c5 hg4 (Oa hRa.out.q0 hRa.out.c5 (by decide));have l0:w4.cell? ⟨w.heap.size+1,0,none⟩=some (.slice A0 x.l.length c0):=(Bc hc5 0).trans rfl;have l1:=Bf hc5 0;have l2:=Bl hc5;replace hR4:=Az hR4;have hRb:=Az (hR4.out.keep (Bw _ (.cells #[.string ⟨nm.toArray⟩] 9)));clear hRa hR3 hbx k0 k1 k2 k3 k4 k5 k6 x0 x1 x2 x3 x4 x5 x6 x7 hr4 hg4 hc5;go_wp2_with (at_builtin;refine Uh rfl (.tmp 107) (.tmp 109) rfl w.heap.size w4.heap.size nm u7 x.names rfl hRb.out.q1 rfl (GP (by simp) _) ?hl2 ?hb2 ?_)
        case hl2=>omega
        case hb2=>exact hRb.out.hz
        intro v2 w5 hr5 hg5 ha5;have hR5:=hRb.out.a1 hr5 hg5;have hRc:=Az (hR5.keep (Bw _ (.cells #[.int .i64 ((n:Int)+1)] 3)));replace hR5:=Az hR5;clear hRb hR4 hr5 hg5 ha5 l0 l1 l2;go_wp2_with (at_builtin;refine Lc rfl (.tmp 111) (.tmp 113) rfl w.heap.size w5.heap.size ((n:Int)+1) u8 x.rows rfl hRc.out.q2 rfl (Bv _ _) ?hl3 ?hb3 ?_)
        case hl3=>omega
        case hb3=>exact hRc.out.hz
        intro v3 w6 hr6 hg6 ha6;have hR6:=Az (hRc.out.a2 hr6 hg6);clear hRc hR5 hr6 hg6 ha6;go_wp2;go_roundw
        case rel=>exact⟨i+1,n+1,i+1,_,_,by go_num,by go_num,by go_num,by omega,Nl _,by omega,hdone,⟨by simp⟩,hstep,hR6⟩
        case measure=>simp[intOf];omega
   ·have hb:¬(t.getD i 0).toNat=10:=fun e=>h10 (UInt8.toNat_inj.1 (by rw[e];rfl))
    have hno2:=Az (Pa hlt hfi h10 hno.out);generalize (t.getD i 0).toNat=c at *;have hb1:¬(c:Int)=10:=by omega
    have hb2:((c:Int)==10)=false:=Bq hb1;go_wp2;go_roundw
    case rel=>exact⟨f,n,i+1,x,v0,rfl,rfl,by go_num,by omega,by omega,by omega,hF,hno2,hok,hR⟩
    case measure=>simp[intOf];omega
  ·obtain rfl:i=t.length:=by omega
   have hge:¬(t.length:Int)<(t.length:Int):=by omega
   have hend:=Qr (n:=(n:Int)) (x:=x) (f:=f) (t:=t) (by have:=hno.out;rwa [List.take_of_length_le (by simp)]at this);rw[←hF.out]at hend;clear hF hno;by_cases hfl:f<t.length
   ·rw[if_pos hfl]at hend;have hfin:=hstop.out hend (by decide);subst hfin;have hfl':(f:Int)<(t.length:Int):=by omega
    have hnw:IntKind.i64.wrap ((n:Int)+1)=(n:Int)+1:=by rw[IntKind.wrap_i64];omega
    obtain⟨y0,y1,y2,y3,y4,y5,y6⟩:=hR.out.facts;clear hend;go_wp2;obtain⟨g1,g2⟩:=hR.out.Qo (.slice none 0 0) (.int .i64 0) (.int .i64 0) _ rfl;exact hQ.out _ _ _ rfl rfl rfl rfl g1 (.nil _ _) g2
   ·rw[if_neg hfl]at hend;have hfl':¬(f:Int)<(t.length:Int):=by omega
    have hgo:=hA.out.symm.trans (Su hend);clear hend hfl hstop hA;obtain⟨A0,c0,rfl⟩:=CM hR.out.q0;obtain⟨A3,c3,rfl⟩:=CM hR.out.q3;obtain⟨A1,c1,rfl⟩:=CM hR.out.q1;obtain⟨A2,c2,rfl⟩:=CM hR.out.q2;have n0:=hok.out.n;have r0:=hok.out.r;have l0:=hok.out.l;have hm9:x.labels.length≤90000:=by have:=hok.out.b;omega
    obtain⟨m,hm⟩:∃ m,x.l.length=m:=⟨_,rfl⟩
    rw[hm]at hR n0 r0 l0;rw[n0,r0]at hR;obtain⟨fx,hfx⟩:∃ fx,FM x 0 []=fx:=⟨_,rfl⟩
    rw[hfx]at hgo;rw[hm]at hgo;replace hm:=Az hm;replace hgo:=Az hgo;replace hfx:=Az hfx;have k0:=hR.out.Ib.1;rw[n0,r0];go_wp2_with fail
    clear k0;go_loopw [125] (fun v125 wr2=>∃ (k:Nat) (done:List In),v125=.int .i64 (k:Int)∧k≤m∧Ag (done.length=k)∧Ag (FM x k done=fx)∧Ag (RX w wr2 w.heap.size (.slice A0 m c0) (.slice A3 x.labels.length c3) (.slice A1 m c1) (.slice A2 m c2) (done++x.l.drop k) x.names x.rows x.labels)) (fun v125 _=>m-(intOf v125).toNat)
    case atStart=>exact⟨0,[],rfl,Nat.zero_le _,⟨rfl⟩,hfx,⟨by simpa using hR.out⟩⟩
    case round =>
     obtain⟨k,done,rfl,hk,hdl,hJ,hR⟩:=hrel;clear hfx;by_cases hlt:k<m
     ·have hlen:(done++x.l.drop k).length=m:=by rw[List.length_append,List.length_drop,hm.out,hdl.out];omega
      have hk0:(0:Int)≤(k:Int):=by omega
      have hk1:(k:Int)<(m:Int):=by omega
      have hkw:IntKind.i64.wrap ((k:Int)+1)=(k:Int)+1:=by rw[IntKind.wrap_i64];omega
      have hkc:(k:Int)+1=((k+1:Nat):Int):=by omega
      have hdl1:∀ i:In,(done++[i]).length=k+1:=fun i=>by rw[List.length_append,hdl.out];rfl
      have hstep:=N2 (x:=x) (k:=k) (done:=done) (by rw[hm.out];exact hlt) (by rw[hm.out];exact n0) (by rw[hm.out];exact r0);rw[hJ.out,hm.out]at hstep;have hq1:=hR.out.q1;unfold DQ at hq1;rw[n0]at hq1;obtain⟨g1,c1',hv1,hc1,_,_,hcell1⟩:=Cw hq1 (by omega);have hA1:A1=some ⟨g1,0,none⟩:=by injection hv1
      subst hA1;have nk:wr.cell? ⟨g1,k,none⟩=some (.string ⟨(x.names.getD k []).toArray⟩):=hcell1 k _ (by
       rw[List.getElem?_map,List.getElem?_eq_getElem (show k<x.names.length by omega),getD_eq (show k<x.names.length by omega)];rfl)
      generalize x.names.getD k []=nm at nk hstep;replace hstep:=Az hstep;replace hdl1:=Az hdl1;replace hkc:=Az hkc;clear hcell1 hv1 hc1 hq1;cases nm with
      |nil =>
       go_wp2_with fail
       go_roundw
       case rel =>
        refine⟨k+1,done++[x.l.getD k In.zero],congrArg (Value.int .i64) hkc.out,hlt,⟨hdl1.out _⟩,⟨(hstep.out.trans (if_pos rfl)).symm⟩,⟨?_⟩⟩;have e:=hR.out;rw[CY x.l k In.zero (by rw[hm.out];exact hlt)]at e
        simpa using e
       case measure=>simp[intOf];omega
      |cons b bs =>
       have P:=Az (fun(W:World) (hW:RX w W w.heap.size (.slice A0 m c0) (.slice A3 x.labels.length c3) (.slice (some ⟨g1,0,none⟩) m c1) (.slice A2 m c2) (done++x.l.drop k) x.names x.rows x.labels)=>FN _ _ (b::bs) m _ W hW.q3 (by omega));have hS:=(hR.out.keep (Bd (Below.refl _ _))).S;have hS2:Ag (RX w wr.drew w.heap.size (.slice A0 m c0) (.slice A3 x.labels.length c3) (.slice (some ⟨g1,0,none⟩) m c1) (.slice A2 m c2) (done++x.l.drop k) x.names x.rows x.labels)∧wr.drew.cell? ⟨w.heap.size+1,0,none⟩=some (.slice A0 m c0)∧wr.drew.cell? ⟨g1,k,none⟩=some (.string ⟨(b::bs).toArray⟩):=⟨hS.1,hS.2,nk⟩
       clear hS;obtain⟨fd,hfd⟩:∃ fd,Cg x.labels (b::bs) m=fd:=⟨_,rfl⟩
       rw[hfd]at hstep P;clear hfd;have hq0:=hR.out.q0;unfold BA at hq0;rw[hlen]at hq0;obtain⟨g0,c0',hv0,hc0,hg0,⟨cs0,hcs0,hcz⟩,_⟩:=Cw hq0 (by omega);have hA0:A0=some ⟨g0,0,none⟩:=by injection hv0
       subst hA0;clear hv0 hq0 hcs0 hcz hc0;go_wp2_with fail
       refine Av [14] (S:=fun W=>Ag (RX w W w.heap.size (.slice (some ⟨g0,0,none⟩) m c0) (.slice A3 x.labels.length c3) (.slice (some ⟨g1,0,none⟩) m c1) (.slice A2 m c2) (done++x.l.drop k) x.names x.rows x.labels)∧W.cell? ⟨w.heap.size+1,0,none⟩=some (.slice (some ⟨g0,0,none⟩) m c0)∧W.cell? ⟨g1,k,none⟩=some (.string ⟨(b::bs).toArray⟩)) (by kernel_rfl) hS2 (fun hS0=>?_);clear hS2 nk hR;obtain⟨w5,hw5⟩:∃ y,wr.drew=y:=⟨_,rfl⟩
       rw[hw5]at hS0 ⊢;clear hw5;refine tY 0 (fun _=>by assumption) ?_;refine tL 1 (by assumption) ?_;refine tY 2 (fun _=>by assumption) ?_;refine tY 3 (fun _=>by assumption) ?_;refine tY 4 (fun _=>by assumption) ?_;refine tY 5 (fun _=>by assumption) ?_;refine tY 6 (fun _=>by assumption) ?_;refine tL 7 (by assumption) ?_;refine tY 8 (fun _=>by assumption) ?_;refine tL 9 (by assumption) ?_;refine tY 10 (fun _=>by assumption) ?_;refine Ab (rs:=[11]) (by kernel_rfl) (by simp) ?_;refine Aa.cons (Au rfl) (fun K hK=>?_) Aa.nil;go_simp
       go_at_call 65
       refine(P.out _ hS0.1.out).mono ?_;rintro e w7 ⟨rfl,hb7⟩;have hS7:=Sv hb7 hS0;clear hS0 hb7;go_wp2_with fail
       refine hK.out _ _ (fun _=>hS7) (fun _=>?_);try simp only[Act.put,Sa,Sb,Sc]
       refine tY 12 (fun _=>by assumption) ?_;refine tY 13 (fun _=>by assumption) ?_;have hR7:=hS7.1.out;have hR8:=hR7.Pb (k:=k) (by rw[hlen];exact hlt) fd;obtain⟨cs7,hcs7,hcz7⟩:∃ cs,w7.heap[g0]?=some (.cells cs 114 (0,0))∧m*8≤cs.size:=by
        have hq:=hR7.q0;unfold BA at hq;rw[hlen]at hq;obtain⟨g0',c0',hv0,_,_,h,_⟩:=Cw hq (by omega);have hgg:g0=g0':=by injection hv0 with a _ _;injection a with a;injection a
        subst hgg;exact h
       have hck:k*8+7<cs7.size:=by omega
       have z7:w7.cell? ⟨g0,k*8+7,none⟩=some cs7[k*8+7]:=(Bc hcs7 (k*8+7)).trans (by simp[hck]);have z7f:=Bf hcs7 (k*8+7);have z7l:=Bl hcs7;have z8:(w7.setCell ⟨g0,k*8+7,none⟩ (.int .i64 fd)).cell? ⟨g0,k*8+7,none⟩=some (.int .i64 fd):=(Bc (Bs hcs7 (k*8+7) _) (k*8+7)).trans (by simp[hck]);generalize cs7[k*8+7]=v7 at z7;replace hR8:=Az hR8;obtain⟨w8,hw8⟩:∃ y,w7.setCell ⟨g0,k*8+7,none⟩ (.int .i64 fd)=y:=⟨_,rfl⟩
       rw[hw8]at hR8 z8;replace z8:=Az z8;clear hS7 hR7 hcs7 hcz7 hck P;refine Ab (rs:=[14]) (by kernel_rfl) (by simp) ?_;refine Aa.cons (Au rfl) (fun K hK=>?_) Aa.nil;go_simp
       go_wp2_with fail
       refine hK.out _ _ (fun h=>by cases h) (fun _=>?_);try simp only[Act.put,Sa,Sb,Sc]
       try rw[hw8]
       clear hw8 z7 z7f z7l;refine Ax (by kernel_rfl) ?_ _;replace z8:=z8.out;have k8:=hR8.out.Ib.1;have hltx:k<x.l.length:=by rw[hm.out];exact hlt
       have e8:=hR8.out;rw[get_at done x.l k In.zero hdl.out hltx,Qs done x.l k _ hdl.out hltx]at e8;replace hR8:=Az e8;clear e8;by_cases hfd:fd<0
       ·have hfx2:fx=.inr (x.rows.getD k 0):=by rw[hstep.out,if_neg (by simp),if_pos hfd]
        subst hfx2;have hfin:fin=(Pg.zero,x.rows.getD k 0,10):=hgo.out;have hq2:=hR8.out.q2;unfold AS at hq2;rw[r0]at hq2;obtain⟨g2,c2',hv2,_,_,_,hcell2⟩:=Cw hq2 (by omega);have hA2:A2=some ⟨g2,0,none⟩:=by injection hv2
        subst hA2;have rk:w8.cell? ⟨g2,k,none⟩=some (.int .i64 (x.rows.getD k 0)):=hcell2 k _ (by
         rw[List.getElem?_map,List.getElem?_eq_getElem (show k<x.rows.length by omega),getD_eq (show k<x.rows.length by omega)];rfl)
        generalize x.rows.getD k 0=row at *;subst hfin;clear hcell2 hv2 hq2 hstep hgo hJ;go_wp2_with fail
        have hng:w.heap.size≠g2:=by
         obtain⟨cells,hc⟩:=CZ hR8.out.q2 g2 rfl;exact C0 hR8.out.c2 hc (by decide)
        refine Av [] (S:=fun W=>W.cell? ⟨g2,k,none⟩=some (.int .i64 row)) (by kernel_rfl) rk (fun hS0=>?_);have hR9:=hR8.out.keep (Bd (Below.refl _ _));obtain⟨w9,hw9⟩:∃ y,w8.drew=y:=⟨_,rfl⟩
        rw[hw9]at hS0 hR9 ⊢;clear hw9 rk hR8;replace hR9:=Az hR9;refine tY 0 (fun _=>by assumption) ?_;refine tY 1 (fun _=>by assumption) ?_;refine tY 2 (fun _=>by assumption) ?_;refine tY 3 (fun _=>by assumption) ?_;refine BZ (i:=4) (v:=?_) (Au rfl) (by kernel_rfl) (fun _ _ _ h=>h) (.inl ⟨by rfl,?_⟩) (by assumption) ?_;rotate_left
        ·intro w hSw;go_simp;try with_reducible rfl
        try simp only[Act.put,Sa,Sb,Sc]
        obtain⟨y0,y1,y2,y3,y4,y5,y6⟩:=hR9.out.facts;refine Ab (rs:=[5]) (by kernel_rfl) (by simp) ?_;refine Aa.cons (Au rfl) (fun K hK=>?_) Aa.nil;go_simp
        go_wp2_with fail
        have hS1:=We hng (.slice none 0 0) (.int .i64 0) (.int .i64 0) hS0;refine hK.out _ _ (fun _=>hS1) (fun _=>?_);try simp only[Act.put,Sa,Sb,Sc]
        refine tY 6 (fun _=>by assumption) ?_;refine tY 7 (fun _=>by assumption) ?_;refine Ax (by kernel_rfl) ?_ _;go_wp2;obtain⟨g3,g4⟩:=hR9.out.Qo (.slice none 0 0) (.int .i64 0) (.int .i64 0) _ rfl;exact hQ.out _ _ _ rfl rfl rfl rfl g3 (.nil _ _) g4
       ·have hfx2:=hstep.out.trans ((if_neg (by simp)).trans (if_neg hfd));go_wp2;go_roundw
        case rel=>exact⟨k+1,done++[{x.l.getD k In.zero with q:=fd}],congrArg (Value.int .i64) hkc.out,hlt,⟨hdl1.out _⟩,⟨hfx2.symm⟩,hR8⟩
        case measure=>simp[intOf];omega
     ·obtain rfl:k=m:=by omega
      have hfx2:fx=.inl done:=by rw[←hJ.out];exact Pc x k done (by rw[hm.out];exact Nl _)
      subst hfx2;have e0:done++x.l.drop k=done:=by rw[List.drop_eq_nil_of_le (by rw[hm.out];exact Nl _),List.append_nil]
      rw[e0]at hR;have hge2:¬(k:Int)<(k:Int):=by omega
      have P1:=Az (fun(W:World) (hW:RX w W w.heap.size (.slice A0 k c0) (.slice A3 x.labels.length c3) (.slice A1 k c1) (.slice A2 k c2) done x.names x.rows x.labels)=>FN _ _ [108,111,99,107] k _ W hW.q3 (by omega));have P2:=Az (fun(W:World) (hW:RX w W w.heap.size (.slice A0 k c0) (.slice A3 x.labels.length c3) (.slice A1 k c1) (.slice A2 k c2) done x.names x.rows x.labels)=>FN _ _ [117,110,108,111,99,107] k _ W hW.q3 (by omega));have hfin:=hgo.out;dsimp only at hfin;generalize Cg x.labels [108,111,99,107] k=f1 at P1 hfin;generalize Cg x.labels [117,110,108,111,99,107] k=f2 at P2 hfin;have hS:=(hR.out.keep (Bd (Below.refl _ _))).S;replace hfin:=Az hfin;clear hJ hgo e0 hlt;go_wp2_with fail
      refine Av [11] (S:=fun W=>Ag (RX w W w.heap.size (.slice A0 k c0) (.slice A3 x.labels.length c3) (.slice A1 k c1) (.slice A2 k c2) done x.names x.rows x.labels)∧W.cell? ⟨w.heap.size+1,0,none⟩=some (.slice A0 k c0)) (by kernel_rfl) hS (fun hS0=>?_);obtain⟨w5,hw5⟩:∃ y,wr.drew=y:=⟨_,rfl⟩
      rw[hw5]at hS0 ⊢;clear hw5 hS hR;refine tY 0 (fun _=>by assumption) ?_;refine tY 1 (fun _=>by assumption) ?_;refine tL 2 (by assumption) ?_;refine tY 3 (fun _=>by assumption) ?_;refine tY 5 (fun _=>by assumption) ?_;refine tY 6 (fun _=>by assumption) ?_;refine tL 7 (by assumption) ?_;refine tY 8 (fun _=>by assumption) ?_;refine Ab (rs:=[4]) (by kernel_rfl) (by simp) ?_;refine Aa.cons (Au rfl) (fun K hK=>?_) Aa.nil;go_simp
      go_at_call 65
      refine(P1.out _ hS0.1.out).mono ?_;rintro e w7 ⟨rfl,hb7⟩;have hS7:=Ml hb7 hS0;clear hS0 hb7 P1;go_wp2_with fail
      refine hK.out _ _ (fun _=>hS7) (fun _=>?_);try simp only[Act.put,Sa,Sb,Sc]
      refine tY 10 (fun _=>by assumption) ?_;refine Ab (rs:=[9]) (by kernel_rfl) (by simp) ?_;refine Aa.cons (Au rfl) (fun K hK=>?_) Aa.nil;go_simp
      go_at_call 65
      refine(P2.out _ hS7.1.out).mono ?_;rintro e w8 ⟨rfl,hb8⟩;have hS8:=Ml hb8 hS7;clear hS7 hb8 P2;go_wp2_with fail
      refine hK.out _ _ (fun _=>hS8) (fun _=>?_);try simp only[Act.put,Sa,Sb,Sc]
      obtain⟨k0,k1,k2,k3,k4,k5,k6⟩:=hS8.1.out.Ib;have hlu:=hS8.1.out.lu (.int .i64 f1) (.int .i64 f2) _ rfl;clear hS8;refine Ab (rs:=[11]) (by kernel_rfl) (by simp) ?_;refine Aa.cons (Au rfl) (fun K hK=>?_) Aa.nil;go_simp
      go_wp2_with fail
      refine hK.out _ _ (fun h=>by cases h) (fun _=>?_);try simp only[Act.put,Sa,Sb,Sc]
      refine tY 12 (fun h=>by cases h) ?_;refine Ab (rs:=[13]) (by kernel_rfl) (by simp) ?_;refine Aa.cons (Au rfl) (fun K hK=>?_) Aa.nil;go_simp
      go_wp2_with fail
      refine hK.out _ _ (fun h=>by cases h) (fun _=>?_);try simp only[Act.put,Sa,Sb,Sc]
      obtain⟨w9,hw9⟩:∃ y,(w8.setCell ⟨w.heap.size+1,1,none⟩ (.int .i64 f1)).setCell ⟨w.heap.size+1,2,none⟩ (.int .i64 f2)=y:=⟨_,rfl⟩
      rw[hw9]at hlu ⊢;clear hw9 k0 k1 k2 k3 k4 k5 k6;refine Ax (by kernel_rfl) ?_ _;obtain⟨u1,u2,u3,u4⟩:=hlu;have y0:w9.cell? ⟨w.heap.size,0,none⟩=some (.slice none 0 0):=(Bc u2 0).trans rfl;have y1:w9.cell? ⟨w.heap.size,1,none⟩=some (.int .i64 0):=(Bc u2 1).trans rfl;have y2:w9.cell? ⟨w.heap.size,2,none⟩=some (.int .i64 0):=(Bc u2 2).trans rfl;have y3:=Bf u2 0;have y4:=Bf u2 1;have y5:=Bf u2 2;have y6:=Bl u2;have k0:w9.cell? ⟨w.heap.size+1,0,none⟩=some (.slice A0 k c0):=(Bc u3 0).trans rfl;have k1:w9.cell? ⟨w.heap.size+1,1,none⟩=some (.int .i64 f1):=(Bc u3 1).trans rfl;have k2:w9.cell? ⟨w.heap.size+1,2,none⟩=some (.int .i64 f2):=(Bc u3 2).trans rfl;replace u1:=Az u1;replace u2:=Az u2;replace u4:=Az u4;clear u3;by_cases h1:f1<0
      ·have hf:=hfin.out.trans (if_pos (.inl h1));subst hf;go_wp2;obtain⟨g3,_,g4⟩:=Qt u1.out u2.out u4.out (.slice none 0 0) (.int .i64 0) (.int .i64 0) _ rfl;exact hQ.out _ _ _ rfl rfl rfl rfl g3 (.nil _ _) g4
      ·by_cases h2:f2<0
       ·have hf:=hfin.out.trans (if_pos (.inr h2));subst hf;go_wp2;obtain⟨g3,_,g4⟩:=Qt u1.out u2.out u4.out (.slice none 0 0) (.int .i64 0) (.int .i64 0) _ rfl;exact hQ.out _ _ _ rfl rfl rfl rfl g3 (.nil _ _) g4
       ·have hf:=hfin.out.trans (if_neg (fun h=>h.elim h1 h2));subst hf;go_wp2;obtain⟨g3,g5,g4⟩:=Qt u1.out u2.out u4.out (.slice A0 k c0) (.int .i64 f1) (.int .i64 f2) _ rfl;exact hQ.out _ _ _ rfl rfl rfl rfl g3 g5 g4
end
end Go.Proofs.YtjjpiefgdggghaaGreatDoor

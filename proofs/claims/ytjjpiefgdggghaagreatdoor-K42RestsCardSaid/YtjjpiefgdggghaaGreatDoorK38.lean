/- Parts: SpecStep, SpecRows. -/
import Derived.Test.YtjjpiefgdggghaaGreatDoorK05
import Derived.Test.YtjjpiefgdggghaaGreatDoorK27
set_option linter.unusedVariables false
set_option linter.unusedSimpArgs false
set_option maxRecDepth 100000
set_option maxHeartbeats 40000000
namespace Go.Proofs.YtjjpiefgdggghaaGreatDoor
section
open Go.RowKit Go.Proofs.YtjjpiefgdggghaaGreatDoorW.PrintWords
section
variable {ops:Array Oper} {o:Oper} {a:Act} {K:Act→World→Prop} {Q:Exit→Act→World→Prop} {E:Prop} {W:World}
theorem L4(hgd:o.guard=none)(ho:o.op=.alloc 37)
  (h:∀ g W1,Below W.heap.size W W1→W.heap.size≤g→W1.heap[g]?=some (.cells #[.slice none 0 0,.int .i64 0,.int .i64 0,.slice none 0 0,.slice none 0 0,.int .i64 0,.slice none 0 0] 37 (0,0))→K (a.put o.dst (.pointer (some ⟨g,0,none⟩))) W1) :
  if Region.wanted o (yielded ops a.tmps)=true then Oper.wp Tryz.prog o a W K Q else E:=by
 rw[if_pos (by simp[Region.wanted,hgd])];have:=h _ _ (Bw W (.cells #[.slice none 0 0,.int .i64 0,.int .i64 0,.slice none 0 0,.slice none 0 0,.int .i64 0,.slice none 0 0] 37)) (Nl _) (Bv W _);obtain⟨dst,op,type,pos,after,guard⟩:=o;dsimp only at ho;subst ho;go_simp
 exact this
end
theorem EX{w W:World}{N g:Nat}(hb:Below N w W)(hg:N≤g){t:TypeId}{x0 x1 x2 x3 x4 x5 x6:Value}(h:W.heap[g]?=some (.cells #[x0,x1,x2,x3,x4,x5,x6] t (0,0)))(v0 v1 v2 v3 v4 v5 v6:Value):∀ W',
  W'=((((((W.setCell ⟨g,0,none⟩ v0).setCell ⟨g,1,none⟩ v1).setCell ⟨g,2,none⟩ v2).setCell ⟨g,3,none⟩ v3).setCell ⟨g,4,none⟩ v4).setCell ⟨g,5,none⟩ v5).setCell ⟨g,6,none⟩ v6 →
  W'.heap[g]?=some (.cells #[v0,v1,v2,v3,v4,v5,v6] t (0,0))∧Below N w W'∧∀ j,j≠g→W'.heap[j]?=W.heap[j]?:=by
 rintro W' rfl;have sb:∀ (W:World) (i:Nat) (x:Value),Below N w W→Below N w (W.setCell ⟨g,i,none⟩ x):=fun W i x h=>h.setCell (show N≤g from hg) x
 have h1:(W.setCell ⟨g,0,none⟩ v0).heap[g]?=some (.cells #[v0,x1,x2,x3,x4,x5,x6] t (0,0)):=Bs h 0 v0;have h2:((W.setCell ⟨g,0,none⟩ v0).setCell ⟨g,1,none⟩ v1).heap[g]?=some (.cells #[v0,v1,x2,x3,x4,x5,x6] t (0,0)):=Bs h1 1 v1;have h3:(((W.setCell ⟨g,0,none⟩ v0).setCell ⟨g,1,none⟩ v1).setCell ⟨g,2,none⟩ v2).heap[g]?=some (.cells #[v0,v1,v2,x3,x4,x5,x6] t (0,0)):=Bs h2 2 v2;have h4:((((W.setCell ⟨g,0,none⟩ v0).setCell ⟨g,1,none⟩ v1).setCell ⟨g,2,none⟩ v2).setCell ⟨g,3,none⟩ v3).heap[g]?=some (.cells #[v0,v1,v2,v3,x4,x5,x6] t (0,0)):=Bs h3 3 v3;have h5:(((((W.setCell ⟨g,0,none⟩ v0).setCell ⟨g,1,none⟩ v1).setCell ⟨g,2,none⟩ v2).setCell ⟨g,3,none⟩ v3).setCell ⟨g,4,none⟩ v4).heap[g]?=some (.cells #[v0,v1,v2,v3,v4,x5,x6] t (0,0)):=Bs h4 4 v4;have h6:((((((W.setCell ⟨g,0,none⟩ v0).setCell ⟨g,1,none⟩ v1).setCell ⟨g,2,none⟩ v2).setCell ⟨g,3,none⟩ v3).setCell ⟨g,4,none⟩ v4).setCell ⟨g,5,none⟩ v5).heap[g]?=some (.cells #[v0,v1,v2,v3,v4,v5,x6] t (0,0)):=Bs h5 5 v5;have h7:(((((((W.setCell ⟨g,0,none⟩ v0).setCell ⟨g,1,none⟩ v1).setCell ⟨g,2,none⟩ v2).setCell ⟨g,3,none⟩ v3).setCell ⟨g,4,none⟩ v4).setCell ⟨g,5,none⟩ v5).setCell ⟨g,6,none⟩ v6).heap[g]?=some (.cells #[v0,v1,v2,v3,v4,v5,v6] t (0,0)):=Bs h6 6 v6;refine⟨h7,sb _ _ _ (sb _ _ _ (sb _ _ _ (sb _ _ _ (sb _ _ _ (sb _ _ _ (sb _ _ _ hb)))))),fun j hj=>?_⟩;have fr:∀ (W:World) (i:Nat) (v:Value),(W.setCell ⟨g,i,none⟩ v).heap[j]?=W.heap[j]?:=fun W i v=>Below.heap_setCell W ⟨g,i,none⟩ v j hj
 exact(fr _ _ _).trans ((fr _ _ _).trans ((fr _ _ _).trans ((fr _ _ _).trans ((fr _ _ _).trans ((fr _ _ _).trans (fr _ _ _))))))
theorem SpB.far{w W:World}{N p g i:Nat}{B C D:Option Addr}{n1 n2 n3 k1 k2 k3:Nat}{each:Int}{cs:Array Value}{t:TypeId}(h:SpB w W N p B C D n1 n2 n3 k1 k2 k3 each)(v:Value)(hg:N≤g)(hc:W.heap[g]?=some (.cells cs t (0,0)))(ht:t≠37) :
  SpB w (W.setCell ⟨g,i,none⟩ v) N p B C D n1 n2 n3 k1 k2 k3 each:=by
 have ne:∀ {j:Nat} {cs':Array Value},W.heap[j]?=some (.cells cs' 37 (0,0))→j≠g:=fun hj e=>by
  subst e;rw[hc]at hj;cases hj;exact ht rfl
 exact⟨h.b.setCell (show N≤g from hg) v,(Below.heap_setCell W ⟨g,i,none⟩ v _ (ne h.c)).trans h.c,(Below.heap_setCell W ⟨g,i,none⟩ v _ (ne h.q)).trans h.q,h.ne⟩
def HRow(W:World)(v:Value)(t:TypeId)(cs:List Value):Prop :=
 (cs=[]∧∃ A c,v=.slice A 0 c)∨∃ (g c:Nat) (arr:Array Value),v=.slice (some ⟨g,0,none⟩) cs.length c∧cs.length≤c∧0<cs.length∧W.heap[g]?=some (.cells arr t (0,0))∧∀ (j:Nat) (u:Value),cs[j]?=some u→arr[j]?=some u
theorem HRow.keep{W W1:World}{v:Value}{t:TypeId}{cs:List Value}(h:HRow W v t cs)(hb:Below W.heap.size W W1):HRow W1 v t cs:=by
 rcases h with h |⟨g,c,arr,h1,h2,h3,h4,h5⟩
 ·exact .inl h
 ·exact .inr ⟨g,c,arr,h1,h2,h3,Bk hb h4,h5⟩
theorem HRow.far{W:World}{v x:Value}{t t':TypeId}{cs:List Value}{g i:Nat}{arr:Array Value}(h:HRow W v t cs)(hg:W.heap[g]?=some (.cells arr t' (0,0)))(ht:t≠t'):HRow (W.setCell ⟨g,i,none⟩ x) v t cs:=by
 rcases h with h |⟨g',c,arr',h1,h2,h3,h4,h5⟩
 ·exact .inl h
 ·refine .inr ⟨g',c,arr',h1,h2,h3,(Below.heap_setCell W ⟨g,i,none⟩ x g' (fun e=>?_)).trans h4,h5⟩;have e':g'=g:=e;subst e';rw[hg]at h4;cases h4;exact ht rfl
theorem HRow.rd{W:World}{v:Value}{t:TypeId}{cs:List Value}(h:HRow W v t cs):Cg W v cs.length cs:=by
 rcases h with ⟨rfl,h⟩ |⟨g,c,arr,h1,h2,h3,h4,h5⟩
 ·exact .inl ⟨rfl,h⟩
 ·exact .inr ⟨g,c,h1,h2,h3,fun j u hj=>(Bc h4 j).trans (h5 j u hj)⟩
theorem HRow.rdn{W:World}{v:Value}{t:TypeId}{f:Int→Value}{xs:List Int}(h:HRow W v t (xs.map f)):Cg W v xs.length (xs.map f):=by
 have:=h.rd
 rwa [List.length_map]at this
theorem HRow.new{W:World}{g n:Nat}{t:TypeId}{arr:Array Value}(cs:List Value)(hg:W.heap[g]?=some (.cells arr t (0,0)))(hn:cs.length=n)(h0:0<n)(h:∀ (j:Nat) (u:Value),cs[j]?=some u→arr[j]?=some u):HRow W (.slice (some ⟨g,0,none⟩) n n) t cs:=by
 subst hn;exact .inr ⟨g,_,arr,rfl,Nl _,h0,hg,h⟩
def SpecHas(w:World)(T:List UInt8)(ss is rs:List Int)(each:Int)(e:Ending)(W:World):Prop :=
 ∃ va vs vi vr:Value,e=.returned (.tuple #[.agg #[va,.int .i64 (B2 T).1.lock,.int .i64 (B2 T).1.unlock,vs,vi,.int .i64 each,vr],.int .i64 0]) ∧
  Cw W w.heap.size va (B2 T).1.l∧HRow W vs 3 (ss.map (Value.int .i64))∧HRow W vi 45 (is.map (Value.int .u32))∧HRow W vr 45 (rs.map (Value.int .u32))∧Below w.heap.size w W
theorem SpB.finH{w W:World}{N p:Nat}{B C D:Option Addr}{n1 n2 n3 k1 k2 k3:Nat}{each:Int}(h:SpB w W N p B C D n1 n2 n3 k1 k2 k3 each){t:TypeId}{v va:Value}{cs:List Value}(l u:Int)(hr:HRow W v t cs)(ht:t≠37):∀ W',
  W'=(((((((((W.setCell ⟨p,0,none⟩ va).setCell ⟨p,1,none⟩ (.int .i64 l)).setCell ⟨p,2,none⟩ (.int .i64 u)).setCell ⟨N,0,none⟩ va).setCell ⟨N,1,none⟩ (.int .i64 l)).setCell ⟨N,2,none⟩ (.int .i64 u)).setCell ⟨N,3,none⟩ (.slice B n1 k1)).setCell ⟨N,4,none⟩ (.slice C n2 k2)).setCell ⟨N,5,none⟩ (.int .i64 each)).setCell ⟨N,6,none⟩ (.slice D n3 k3) →
  HRow W' v t cs:=by
 rintro W' rfl;have hne:=h.ne;have far:∀ {W:World} {i:Nat} {o:Obj} (v:Value),W.heap[N]?=some o→(W.setCell ⟨p,i,none⟩ v).heap[N]?=some o:=fun v hj=>(Below.heap_setCell _ ⟨_,_,none⟩ v _ (show N≠p by omega)).trans hj
 have p0:=h.q;have p1:=Bs p0 0 va;have p2:=Bs p1 1 (.int .i64 l);have n0:=far (i:=2) (.int .i64 u) (far (i:=1) (.int .i64 l) (far (i:=0) va h.c));have m1:=Bs n0 0 va;have m2:=Bs m1 1 (.int .i64 l);have m3:=Bs m2 2 (.int .i64 u);have m4:=Bs m3 3 (.slice B n1 k1);have m5:=Bs m4 4 (.slice C n2 k2);have m6:=Bs m5 5 (.int .i64 each);have r1:=hr.far (i:=0) (x:=va) p0 ht;have r2:=r1.far (i:=1) (x:=.int .i64 l) p1 ht;have r3:=r2.far (i:=2) (x:=.int .i64 u) p2 ht;have r4:=r3.far (i:=0) (x:=va) n0 ht;have r5:=r4.far (i:=1) (x:=.int .i64 l) m1 ht;have r6:=r5.far (i:=2) (x:=.int .i64 u) m2 ht;have r7:=r6.far (i:=3) (x:=.slice B n1 k1) m3 ht;have r8:=r7.far (i:=4) (x:=.slice C n2 k2) m4 ht;have r9:=r8.far (i:=5) (x:=.int .i64 each) m5 ht;exact r9.far (i:=6) (x:=.slice D n3 k3) m6 ht
section
variable {ops:Array Oper} {o:Oper} {a:Act} {K:Act→World→Prop} {Q:Exit→Act→World→Prop} {E:Prop} {W:World}
theorem step_mkz(hgd:o.guard=none)(x:Operand)(ho:o.op=.makeSlice 27 x x)(z:Int)(hx:a.eval x=.int .i64 z)(k:Nat)(hz:z=k)(hk:k≤1000000)
  (h:∀ g W1 cs,Below W.heap.size W W1→W.heap.size≤g→W1.heap[g]?=some (.cells cs 45 (0,0))→(cs.size=k∧∀ j,j<k→cs[j]?=some (.int .u32 0))→K (a.put o.dst (.slice (some ⟨g,0,none⟩) k k)) W1) :
  if Region.wanted o (yielded ops a.tmps)=true then Oper.wp Tryz.prog o a W K Q else E:=by
 rw[if_pos (by simp[Region.wanted,hgd])];subst hz;obtain⟨cs,hcs,hc0,hmk⟩:=Ii k hk;unfold Oper.wp execOp;simp only[ho,hx,hmk,Sem.run_bind,Result.andThen_ok];exact h _ _ cs (Bw W _) (Nl _) (Bv W _) ⟨hcs,hc0⟩
theorem step_h4(hgd:o.guard=none)(p0 p1 p2 p3:Operand)(ho:o.op=.buildSlice 26 4 #[(0,p0),(1,p1),(2,p2),(3,p3)])(x0 x1 x2 x3:Int)(h0:a.eval p0=.int .i64 x0)(h1:a.eval p1=.int .i64 x1)(h2:a.eval p2=.int .i64 x2)(h3:a.eval p3=.int .i64 x3)
  (h:∀ g W1,Below W.heap.size W W1→W1.heap[g]?=some (.cells #[.int .i64 x0,.int .i64 x1,.int .i64 x2,.int .i64 x3] 3 (0,0))→K (a.put o.dst (.slice (some ⟨g,0,none⟩) 4 4)) W1) :
  if Region.wanted o (yielded ops a.tmps)=true then Oper.wp Tryz.prog o a W K Q else E:=by
 rw[if_pos (by simp[Region.wanted,hgd])];obtain⟨i9,hi,hz0,hz1,hz2⟩:=info_parts EA;refine wp_buildSlice 26 3 4 _ ho #[.int .i64 x0,.int .i64 x1,.int .i64 x2,.int .i64 x3] i9 (.int .i64 0) Tryz.underlying26 hi hz0 (by rw[hz1];decide) (by rw[hz1];decide) ?_ (h _ _ (Bw W _) (Bv W _));rw[hz1];simp only[List.map_toArray,List.map_cons,List.map_nil,h0,h1,h2,h3]
 kernel_rfl
end
theorem HRow.zeros{W:World}{g k:Nat}{arr:Array Value}(hg:W.heap[g]?=some (.cells arr 45 (0,0)))(h0:0<k)(h:∀ j,j<k→arr[j]?=some (.int .u32 0)):HRow W (.slice (some ⟨g,0,none⟩) k k) 45 ((List.replicate k (0:Int)).map (Value.int .u32)):=by
 refine HRow.new _ hg (by simp) h0 (fun j u hj=>?_);rw[List.map_replicate,List.getElem?_replicate]at hj;by_cases hl:j<k
 ·rw[if_pos hl]at hj;cases hj;exact h j hl
 ·rw[if_neg hl]at hj;cases hj
theorem seven_H{W:World}{g:Nat}{t t':TypeId}{x0 x1 x2 x3 x4 x5 x6:Value}{v:Value}{cs:List Value}(h:W.heap[g]?=some (.cells #[x0,x1,x2,x3,x4,x5,x6] t' (0,0)))(hr:HRow W v t cs)(ht:t≠t')(v0 v1 v2 v3 v4 v5 v6:Value):∀ W',
  W'=((((((W.setCell ⟨g,0,none⟩ v0).setCell ⟨g,1,none⟩ v1).setCell ⟨g,2,none⟩ v2).setCell ⟨g,3,none⟩ v3).setCell ⟨g,4,none⟩ v4).setCell ⟨g,5,none⟩ v5).setCell ⟨g,6,none⟩ v6→HRow W' v t cs:=by
 rintro W' rfl;have h1:(W.setCell ⟨g,0,none⟩ v0).heap[g]?=some (.cells #[v0,x1,x2,x3,x4,x5,x6] t' (0,0)):=Bs h 0 v0;have r1:=HRow.far (i:=0) (x:=v0) hr h ht;have h2:((W.setCell ⟨g,0,none⟩ v0).setCell ⟨g,1,none⟩ v1).heap[g]?=some (.cells #[v0,v1,x2,x3,x4,x5,x6] t' (0,0)):=Bs h1 1 v1;have r2:=HRow.far (i:=1) (x:=v1) r1 h1 ht;have h3:(((W.setCell ⟨g,0,none⟩ v0).setCell ⟨g,1,none⟩ v1).setCell ⟨g,2,none⟩ v2).heap[g]?=some (.cells #[v0,v1,v2,x3,x4,x5,x6] t' (0,0)):=Bs h2 2 v2;have r3:=HRow.far (i:=2) (x:=v2) r2 h2 ht;have h4:((((W.setCell ⟨g,0,none⟩ v0).setCell ⟨g,1,none⟩ v1).setCell ⟨g,2,none⟩ v2).setCell ⟨g,3,none⟩ v3).heap[g]?=some (.cells #[v0,v1,v2,v3,x4,x5,x6] t' (0,0)):=Bs h3 3 v3;have r4:=HRow.far (i:=3) (x:=v3) r3 h3 ht;have h5:(((((W.setCell ⟨g,0,none⟩ v0).setCell ⟨g,1,none⟩ v1).setCell ⟨g,2,none⟩ v2).setCell ⟨g,3,none⟩ v3).setCell ⟨g,4,none⟩ v4).heap[g]?=some (.cells #[v0,v1,v2,v3,v4,x5,x6] t' (0,0)):=Bs h4 4 v4;have r5:=HRow.far (i:=4) (x:=v4) r4 h4 ht;have h6:((((((W.setCell ⟨g,0,none⟩ v0).setCell ⟨g,1,none⟩ v1).setCell ⟨g,2,none⟩ v2).setCell ⟨g,3,none⟩ v3).setCell ⟨g,4,none⟩ v4).setCell ⟨g,5,none⟩ v5).heap[g]?=some (.cells #[v0,v1,v2,v3,v4,v5,x6] t' (0,0)):=Bs h5 5 v5;have r6:=HRow.far (i:=5) (x:=v5) r5 h5 ht;have h7:(((((((W.setCell ⟨g,0,none⟩ v0).setCell ⟨g,1,none⟩ v1).setCell ⟨g,2,none⟩ v2).setCell ⟨g,3,none⟩ v3).setCell ⟨g,4,none⟩ v4).setCell ⟨g,5,none⟩ v5).setCell ⟨g,6,none⟩ v6).heap[g]?=some (.cells #[v0,v1,v2,v3,v4,v5,v6] t' (0,0)):=Bs h6 6 v6;have r7:=HRow.far (i:=6) (x:=v6) r6 h6 ht;exact r7
theorem HRow.off{W:World}{v x:Value}{t:TypeId}{cs:List Value}{g i:Nat}(h:HRow W v t cs)(hne:∀ g' n c,v=.slice (some ⟨g',0,none⟩) n c→g'≠g):HRow (W.setCell ⟨g,i,none⟩ x) v t cs:=by
 rcases h with h |⟨g',c,arr',h1,h2,h3,h4,h5⟩
 ·exact .inl h
 ·exact .inr ⟨g',c,arr',h1,h2,h3,(Below.heap_setCell W ⟨g,i,none⟩ x g' (hne _ _ _ h1)).trans h4,h5⟩
theorem HRow.put{W:World}{x:Value}{t:TypeId}{cs:List Value}{g i n c:Nat}(h:HRow W (.slice (some ⟨g,0,none⟩) n c) t cs):HRow (W.setCell ⟨g,i,none⟩ x) (.slice (some ⟨g,0,none⟩) n c) t (cs.set i x):=by
 rcases h with ⟨rfl,h⟩ |⟨g',c',arr',h1,h2,h3,h4,h5⟩
 ·exact .inl ⟨rfl,h⟩
 ·have e:g=g':=by injection h1 with a;injection a with a;injection a
  subst e;refine .inr ⟨g,c',_,by rw[List.length_set];exact h1,by rw[List.length_set];exact h2,by rw[List.length_set];exact h3,Bs h4 i x,fun j u hj=>?_⟩;by_cases hji:i=j
  ·subst hji;have hlt:i<(cs.set i x).length:=(List.getElem?_eq_some_iff.1 hj).1;rw[List.length_set]at hlt;rw[List.getElem?_set_self hlt]at hj;cases hj;have hs:i<arr'.size:=by
    have:=h5 i cs[i] (List.getElem?_eq_getElem hlt);exact(Array.getElem?_eq_some_iff.1 this).1
   simp[hs]
  ·rw[List.getElem?_set_ne hji]at hj;rw[Array.getElem?_setIfInBounds_ne hji];exact h5 j u hj
end
end Go.Proofs.YtjjpiefgdggghaaGreatDoor

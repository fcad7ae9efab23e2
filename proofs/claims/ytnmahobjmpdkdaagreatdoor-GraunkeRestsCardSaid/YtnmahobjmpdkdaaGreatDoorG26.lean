/- Parts: Exec, SpecStep, RefAsmKit. -/
import Derived.Test.YtnmahobjmpdkdaaGreatDoorG02
import Derived.Test.YtnmahobjmpdkdaaGreatDoorG23
import Derived.Test.YtnmahobjmpdkdaaGreatDoorG24
import Derived.Test.YtnmahobjmpdkdaaGreatDoorG25
set_option linter.unusedVariables false
set_option linter.unusedSimpArgs false
set_option maxRecDepth 100000
set_option maxHeartbeats 40000000
namespace Go.Proofs.YtnmahobjmpdkdaaGreatDoor
section
open Go.RowKit Go.Proofs.YtnmahobjmpdkdaaGreatDoorW.PrintWords
theorem MR:(Tryz.prog.info? 133).map (fun i=>(i.zero,i.size,i.bytes))=some (some (.agg Ld),9,72):=by kernel_rfl
def Cx:List CoreM→List Value
 |[]=>[]
 |c::l=>c.arr.toList++Cx l
theorem GY:∀ (l:List CoreM) (c:CoreM),Cx (l++[c])=Cx l++c.arr.toList
 |[],c=>by simp[Cx]
 |d::l,c=>by simp[Cx,GY l c]
theorem VC(a0 a1 a2 a3 a4 a5 a6 a7 a8:Value)(r:List Value)(k:Nat):(a0::a1::a2::a3::a4::a5::a6::a7::a8::r)[k+9]?=r[k]?:=rfl
theorem Jf:∀ (l:List CoreM) (t j:Nat),t<l.length→j<9→(∀ c∈l,c.ok)→(Cx l)[t*9+j]?=(l.getD t ⟨[],0⟩).arr[j]?
 |c::l,0,j,_,hj,h=>by
  obtain⟨a0,a1,a2,a3,a4,a5,a6,a7,a8,he⟩:=Cm (h c (List.mem_cons_self ..)).len;simp only[Cx,he,Nat.zero_mul,Nat.zero_add,List.getD_cons_zero];rw[List.getElem?_append_left (by simpa using hj),Array.getElem?_toList]
 |c::l,t+1,j,ht,hj,h=>by
  obtain⟨a0,a1,a2,a3,a4,a5,a6,a7,a8,he⟩:=Cm (h c (List.mem_cons_self ..)).len;have ih:=Jf l t j (by simpa using ht) hj (fun c hc=>h c (List.mem_cons_of_mem _ hc));rw[show(t+1)*9+j=(t*9+j)+9 by omega];simp only[Cx,he,List.getD_cons_succ];exact(VC _ _ _ _ _ _ _ _ _ _ _).trans ih
def X2(l:List Value)(k:Nat)(z0 z1 z2 z3 z4 z5 z6 z7 z8:Value):List Value:=((((((((l.set k z0).set (k+1) z1).set (k+2) z2).set (k+3) z3).set (k+4) z4).set (k+5) z5).set (k+6) z6).set (k+7) z7).set (k+8) z8
theorem HY{c':CoreM}{z0 z1 z2 z3 z4 z5 z6 z7 z8:Value}(hz:c'.arr=#[z0,z1,z2,z3,z4,z5,z6,z7,z8]):∀ (l:List CoreM) (t:Nat),t<l.length→(∀ c∈l,c.ok) →
  X2 (Cx l) (t*9) z0 z1 z2 z3 z4 z5 z6 z7 z8=Cx (l.set t c')
 |c::l,0,_,h=>by
  obtain⟨a0,a1,a2,a3,a4,a5,a6,a7,a8,he⟩:=Cm (h c (List.mem_cons_self ..)).len;simp[Cx,he,hz,X2]
 |c::l,t+1,ht,h=>by
  obtain⟨a0,a1,a2,a3,a4,a5,a6,a7,a8,he⟩:=Cm (h c (List.mem_cons_self ..)).len;have ih:=HY hz l t (by simpa using ht) (fun c hc=>h c (List.mem_cons_of_mem _ hc));unfold X2 at ih ⊢;simp only[Cx,he,Sc,List.cons_append,List.nil_append];rw[←ih,show(t+1)*9=t*9+9 by omega,show t*9+9+1=t*9+1+9 by omega,show t*9+9+2=t*9+2+9 by omega,show t*9+9+3=t*9+3+9 by omega,show t*9+9+4=t*9+4+9 by omega,
   show t*9+9+5=t*9+5+9 by omega,show t*9+9+6=t*9+6+9 by omega,show t*9+9+7=t*9+7+9 by omega,show t*9+9+8=t*9+8+9 by omega]
  rfl
def EL(W:World)(N:Nat)(v:Value)(xs:List CoreM):Prop:=W.ownsRow N 133 9 v xs.length (Cx xs)
def E6(W:World)(N:Nat)(v:Value)(xs:List Nat):Prop:=W.ownsRow N 22 1 v xs.length (xs.map fun x:Nat=>Value.int .u32 x)
def Ef(xs:List (Nat×Nat)):List Value:=xs.flatMap fun p=>[.int .i64 (p.1:Int),.int .i64 (p.2:Int)]
def Dn(W:World)(N:Nat)(v:Value)(xs:List (Nat×Nat)):Prop:=W.ownsRow N 106 2 v xs.length (Ef xs)
theorem Gi{W:World}{b b':Nat}{e:TypeId}{size n:Nat}{v:Value}{xs:List Value}(h:W.ownsRow b e size v n xs)(hb:b'≤b):W.ownsRow b' e size v n xs:=by
 obtain⟨h1,h2⟩:=h;refine⟨h1,h2.imp id ?_⟩;rintro⟨g,cap,cur,hv,hg,r⟩;exact⟨g,cap,cur,hv,Nat.le_trans hb hg,r⟩
theorem VD{W:World}{base:Nat}{e:TypeId}{size n g c:Nat}{xs:List Value}(h:W.ownsRow base e size (.slice (some ⟨g,0,none⟩) n c) n xs)(k:Nat)(hk:k+8<n*size)(v0 v1 v2 v3 v4 v5 v6 v7 v8:Value) :
  (((((((((W.setCell ⟨g,k,none⟩ v0).setCell ⟨g,k+1,none⟩ v1).setCell ⟨g,k+2,none⟩ v2).setCell ⟨g,k+3,none⟩ v3).setCell ⟨g,k+4,none⟩ v4).setCell ⟨g,k+5,none⟩ v5).setCell ⟨g,k+6,none⟩ v6).setCell ⟨g,k+7,none⟩ v7).setCell ⟨g,k+8,none⟩ v8).ownsRow base e size (.slice (some ⟨g,0,none⟩) n c) n (X2 xs k v0 v1 v2 v3 v4 v5 v6 v7 v8) :=
 DF (DF (DF (DF (DF (DF (DF (DF (DF h k (by omega) v0) (k+1) (by omega) v1) (k+2) (by omega) v2) (k+3) (by omega) v3) (k+4) (by omega) v4) (k+5) (by omega) v5) (k+6) (by omega) v6) (k+7) (by omega) v7) (k+8) (by omega) v8
theorem VE{B:Nat}{Ts:List TypeId}{M:Nat→Prop}{a W:World}{g k:Nat}{cs:Array Value}{t:TypeId}(h:Cq B Ts M a W)(hg:W.heap[g]?=some (.cells cs t (0,0)))(ht:t∈Ts)(hB:B≤g)(v0 v1 v2 v3 v4 v5 v6 v7 v8:Value) :
  Cq B Ts M a (((((((((W.setCell ⟨g,k,none⟩ v0).setCell ⟨g,k+1,none⟩ v1).setCell ⟨g,k+2,none⟩ v2).setCell ⟨g,k+3,none⟩ v3).setCell ⟨g,k+4,none⟩ v4).setCell ⟨g,k+5,none⟩ v5).setCell ⟨g,k+6,none⟩ v6).setCell ⟨g,k+7,none⟩ v7).setCell ⟨g,k+8,none⟩ v8):=by
 have b0:=Bs hg k v0;have f0:=h.set (p:=⟨g,k,none⟩) hg ht hB v0;have b1:=Bs b0 (k+1) v1;have f1:=f0.set (p:=⟨g,k+1,none⟩) b0 ht hB v1;have b2:=Bs b1 (k+2) v2;have f2:=f1.set (p:=⟨g,k+2,none⟩) b1 ht hB v2;have b3:=Bs b2 (k+3) v3;have f3:=f2.set (p:=⟨g,k+3,none⟩) b2 ht hB v3;have b4:=Bs b3 (k+4) v4;have f4:=f3.set (p:=⟨g,k+4,none⟩) b3 ht hB v4;have b5:=Bs b4 (k+5) v5;have f5:=f4.set (p:=⟨g,k+5,none⟩) b4 ht hB v5;have b6:=Bs b5 (k+6) v6;have f6:=f5.set (p:=⟨g,k+6,none⟩) b5 ht hB v6;have b7:=Bs b6 (k+7) v7;have f7:=f6.set (p:=⟨g,k+7,none⟩) b6 ht hB v7;exact f7.set (p:=⟨g,k+8,none⟩) b7 ht hB v8
def Jz:List TypeId:=[133,22,80]
structure Dp (w W:World) (px:Nat) (vl vc vw vr:Value) (pl:Option Addr) (x:AG):Prop where
 b:Below w.heap.size w W
 Ms:w.heap.size≤px
 bx:∃ acc:Int,W.heap[px]?=some (.cells #[vl,.int .i64 x.pg.lock,.int .i64 x.pg.unlock,vc,vw,.pointer pl,vr,.int .i64 acc] 80 (0,0))
 code:Cg w vl x.pg.l.length (By x.pg.l)
 cells:Dn W w.heap.size vc x.cells
 words:E6 W w.heap.size vw x.words
 AP:EL W w.heap.size vr x.AP
 ok:∀ c∈x.AP,c.ok
 Wg:∀ v∈x.words,v<4294967296
section
variable {w W W1:World} {px:Nat} {vl vc vw vr:Value} {pl:Option Addr} {x:AG} {M:Nat→Prop}
theorem Dp.hz(h:Dp w W px vl vc vw vr pl x):w.heap.size≤W.heap.size:=h.b.size
theorem Dp.keep(h:Dp w W px vl vc vw vr pl x)(hb:Below W.heap.size W W1):Dp w W1 px vl vc vw vr pl x :=
 ⟨h.b.trans (hb.mono h.hz),h.Ms,h.bx.imp fun _ hb'=>Bk hb hb',h.code,Om h.cells (fun k hk=>hb.block k (Ol h.cells k hk)),Om h.words (fun k hk=>hb.block k (Ol h.words k hk)),Om h.AP (fun k hk=>hb.block k (Ol h.AP k hk)),h.ok,h.Wg⟩
theorem Dp.core(h:Dp w W px vl vc vw vr pl x){t:Nat}(ht:t<x.AP.length):(x.core t).ok:=by
 refine h.ok _ ?_;unfold AG.core;rw[List.getD_eq_getElem?_getD,List.getElem?_eq_getElem ht];exact List.getElem_mem _
theorem Dp.row(h:Dp w W px vl vc vw vr pl x){t:Nat}(ht:t<x.AP.length) :
  ∃ g c,vr=.slice (some ⟨g,0,none⟩) x.AP.length c∧w.heap.size≤g∧(∃ cs,W.heap[g]?=some (.cells cs 133 (0,0)))∧∀ j,j<9→W.cell? ⟨g,t*9+j,none⟩=(x.core t).arr[j]?:=by
 obtain⟨g,c,hv,_,hg,⟨cs,hcs,_⟩,hcell⟩:=CO h.AP (by omega);refine⟨g,c,hv,hg,⟨cs,hcs⟩,fun j hj=>?_⟩;have e:=Jf x.AP t j ht hj h.ok;have hl:∃ y,(x.core t).arr[j]?=some y:=⟨_,Array.getElem?_eq_getElem (by rw[Py _ (h.core ht).len];exact hj)⟩
 obtain⟨y,hy⟩:=hl;rw[hy];exact hcell _ _ (e.trans hy)
theorem NS{W:World}{b1 b2:Nat}{e1 e2:TypeId}{s1 s2 n1 n2 g c:Nat}{v:Value}{xs ys:List Value}(h1:W.ownsRow b1 e1 s1 v n1 xs)(h2:W.ownsRow b2 e2 s2 (.slice (some ⟨g,0,none⟩) n2 c) n2 ys)(hne:e1≠e2):∀ k,v.ownBlock=some k→k≠g:=by
 intro k hk e;subst e;rcases h2.2 with ⟨h,_⟩ |⟨g',cap,cur,h,_,hh,_⟩
 ·cases h
 ·cases h;exact Oa h1 hh hne hk.symm
theorem Dp.put{g cap t:Nat}{c':CoreM}{v0 v1 v2 v3 v4 v5 v6 v7 v8:Value}(h:Dp w W px vl vc vw vr pl x)(hv:vr=.slice (some ⟨g,0,none⟩) x.AP.length cap)(ht:t<x.AP.length)(hc:c'.arr=#[v0,v1,v2,v3,v4,v5,v6,v7,v8])(ho:c'.ok) :
  ∀ W',W'=(((((((((W.setCell ⟨g,t*9,none⟩ v0).setCell ⟨g,t*9+1,none⟩ v1).setCell ⟨g,t*9+2,none⟩ v2).setCell ⟨g,t*9+3,none⟩ v3).setCell ⟨g,t*9+4,none⟩ v4).setCell ⟨g,t*9+5,none⟩ v5).setCell ⟨g,t*9+6,none⟩ v6).setCell ⟨g,t*9+7,none⟩ v7).setCell ⟨g,t*9+8,none⟩ v8)→Dp w W' px vl vc vw vr pl {x with AP:=x.AP.set t c'}∧Cq w.heap.size Jz M W W':=by
 rintro W' rfl;subst hv;have hcores:=h.AP;unfold EL at hcores;obtain⟨g',c2,hv2,hg,⟨cs,hcs⟩,_⟩:=h.row ht;obtain⟨rfl,rfl⟩:g=g'∧cap=c2:=by cases hv2;exact⟨rfl,rfl⟩
 obtain⟨acc,hbx⟩:=h.bx;have F:Cq w.heap.size Jz M W _:=VE (k:=t*9) (Cq.refl _ _ _ W) hcs (by decide) hg v0 v1 v2 v3 v4 v5 v6 v7 v8;have far:∀ k,k≠g→((((((((((W.setCell ⟨g,t*9,none⟩ v0).setCell ⟨g,t*9+1,none⟩ v1).setCell ⟨g,t*9+2,none⟩ v2).setCell ⟨g,t*9+3,none⟩ v3).setCell ⟨g,t*9+4,none⟩ v4).setCell ⟨g,t*9+5,none⟩ v5).setCell ⟨g,t*9+6,none⟩ v6).setCell ⟨g,t*9+7,none⟩ v7).setCell ⟨g,t*9+8,none⟩ v8)).heap[k]?=W.heap[k]?:=fun k hk=>by
  rw[Below.heap_setCell _ ⟨g,t*9+8,none⟩ _ k hk,Below.heap_setCell _ ⟨g,t*9+7,none⟩ _ k hk,Below.heap_setCell _ ⟨g,t*9+6,none⟩ _ k hk,Below.heap_setCell _ ⟨g,t*9+5,none⟩ _ k hk,Below.heap_setCell _ ⟨g,t*9+4,none⟩ _ k hk,Below.heap_setCell _ ⟨g,t*9+3,none⟩ _ k hk,Below.heap_setCell _ ⟨g,t*9+2,none⟩ _ k hk,Below.heap_setCell _ ⟨g,t*9+1,none⟩ _ k hk,Below.heap_setCell _ ⟨g,t*9,none⟩ _ k hk]
 refine⟨⟨h.b.trans (F.below h.hz),h.Ms,⟨acc,(far px (CU hbx hcs (by decide))).trans hbx⟩,h.code,Om h.cells (fun k hk=>far k (NS h.cells hcores (by decide) k hk)),Om h.words (fun k hk=>far k (NS h.words hcores (by decide) k hk)),?_,?_,h.Wg⟩,F⟩
 ·unfold EL;rw[←HY hc x.AP t ht h.ok,List.length_set];exact VD hcores (t*9) (by omega) v0 v1 v2 v3 v4 v5 v6 v7 v8
 ·intro c hcm;rcases List.mem_or_eq_of_mem_set hcm with hm |rfl
  ·exact h.ok c hm
  ·exact ho
end
section
variable {ops:Array Oper} {o:Oper} {a:Act} {K:Act→World→Prop} {Q:Exit→Act→World→Prop} {E:Prop} {W:World}
theorem L4(hgd:o.guard=none)(ho:o.op=.alloc 38)
  (h:∀ g W1,Below W.heap.size W W1→W.heap.size≤g→W1.heap[g]?=some (.cells #[.slice none 0 0,.int .i64 0,.int .i64 0,.slice none 0 0,.slice none 0 0,.int .i64 0,.slice none 0 0] 38 (0,0))→K (a.put o.dst (.pointer (some ⟨g,0,none⟩))) W1) :
  if Region.wanted o (yielded ops a.tmps)=true then Oper.wp Tryz.prog o a W K Q else E:=by
 rw[if_pos (by simp[Region.wanted,hgd])];have:=h _ _ (Bw W (.cells #[.slice none 0 0,.int .i64 0,.int .i64 0,.slice none 0 0,.slice none 0 0,.int .i64 0,.slice none 0 0] 38)) (Nl _) (Bv W _);obtain⟨dst,op,type,pos,after,guard⟩:=o;dsimp only at ho;subst ho;go_simp
 exact this
end
theorem EX{w W:World}{N g:Nat}(hb:Below N w W)(hg:N≤g){t:TypeId}{x0 x1 x2 x3 x4 x5 x6:Value}(h:W.heap[g]?=some (.cells #[x0,x1,x2,x3,x4,x5,x6] t (0,0)))(v0 v1 v2 v3 v4 v5 v6:Value):∀ W',
  W'=((((((W.setCell ⟨g,0,none⟩ v0).setCell ⟨g,1,none⟩ v1).setCell ⟨g,2,none⟩ v2).setCell ⟨g,3,none⟩ v3).setCell ⟨g,4,none⟩ v4).setCell ⟨g,5,none⟩ v5).setCell ⟨g,6,none⟩ v6 →
  W'.heap[g]?=some (.cells #[v0,v1,v2,v3,v4,v5,v6] t (0,0))∧Below N w W'∧∀ j,j≠g→W'.heap[j]?=W.heap[j]?:=by
 rintro W' rfl;have sb:∀ (W:World) (i:Nat) (x:Value),Below N w W→Below N w (W.setCell ⟨g,i,none⟩ x):=fun W i x h=>h.setCell (show N≤g from hg) x
 have h1:(W.setCell ⟨g,0,none⟩ v0).heap[g]?=some (.cells #[v0,x1,x2,x3,x4,x5,x6] t (0,0)):=Bs h 0 v0;have h2:((W.setCell ⟨g,0,none⟩ v0).setCell ⟨g,1,none⟩ v1).heap[g]?=some (.cells #[v0,v1,x2,x3,x4,x5,x6] t (0,0)):=Bs h1 1 v1;have h3:(((W.setCell ⟨g,0,none⟩ v0).setCell ⟨g,1,none⟩ v1).setCell ⟨g,2,none⟩ v2).heap[g]?=some (.cells #[v0,v1,v2,x3,x4,x5,x6] t (0,0)):=Bs h2 2 v2;have h4:((((W.setCell ⟨g,0,none⟩ v0).setCell ⟨g,1,none⟩ v1).setCell ⟨g,2,none⟩ v2).setCell ⟨g,3,none⟩ v3).heap[g]?=some (.cells #[v0,v1,v2,v3,x4,x5,x6] t (0,0)):=Bs h3 3 v3;have h5:(((((W.setCell ⟨g,0,none⟩ v0).setCell ⟨g,1,none⟩ v1).setCell ⟨g,2,none⟩ v2).setCell ⟨g,3,none⟩ v3).setCell ⟨g,4,none⟩ v4).heap[g]?=some (.cells #[v0,v1,v2,v3,v4,x5,x6] t (0,0)):=Bs h4 4 v4;have h6:((((((W.setCell ⟨g,0,none⟩ v0).setCell ⟨g,1,none⟩ v1).setCell ⟨g,2,none⟩ v2).setCell ⟨g,3,none⟩ v3).setCell ⟨g,4,none⟩ v4).setCell ⟨g,5,none⟩ v5).heap[g]?=some (.cells #[v0,v1,v2,v3,v4,v5,x6] t (0,0)):=Bs h5 5 v5;have h7:(((((((W.setCell ⟨g,0,none⟩ v0).setCell ⟨g,1,none⟩ v1).setCell ⟨g,2,none⟩ v2).setCell ⟨g,3,none⟩ v3).setCell ⟨g,4,none⟩ v4).setCell ⟨g,5,none⟩ v5).setCell ⟨g,6,none⟩ v6).heap[g]?=some (.cells #[v0,v1,v2,v3,v4,v5,v6] t (0,0)):=Bs h6 6 v6;refine⟨h7,sb _ _ _ (sb _ _ _ (sb _ _ _ (sb _ _ _ (sb _ _ _ (sb _ _ _ (sb _ _ _ hb)))))),fun j hj=>?_⟩;have fr:∀ (W:World) (i:Nat) (v:Value),(W.setCell ⟨g,i,none⟩ v).heap[j]?=W.heap[j]?:=fun W i v=>Below.heap_setCell W ⟨g,i,none⟩ v j hj
 exact(fr _ _ _).trans ((fr _ _ _).trans ((fr _ _ _).trans ((fr _ _ _).trans ((fr _ _ _).trans ((fr _ _ _).trans (fr _ _ _))))))
theorem SpB.far{w W:World}{N p g i:Nat}{B C D:Option Addr}{n1 n2 n3 k1 k2 k3:Nat}{each:Int}{cs:Array Value}{t:TypeId}(h:SpB w W N p B C D n1 n2 n3 k1 k2 k3 each)(v:Value)(hg:N≤g)(hc:W.heap[g]?=some (.cells cs t (0,0)))(ht:t≠38) :
  SpB w (W.setCell ⟨g,i,none⟩ v) N p B C D n1 n2 n3 k1 k2 k3 each:=by
 have ne:∀ {j:Nat} {cs':Array Value},W.heap[j]?=some (.cells cs' 38 (0,0))→j≠g:=fun hj e=>by
  subst e;rw[hc]at hj;cases hj;exact ht rfl
 exact⟨h.b.setCell (show N≤g from hg) v,(Below.heap_setCell W ⟨g,i,none⟩ v _ (ne h.c)).trans h.c,(Below.heap_setCell W ⟨g,i,none⟩ v _ (ne h.q)).trans h.q,h.ne⟩
theorem Kn:∀ (a rest:List UInt8),(10:UInt8)∉a→Bm (a++10::rest)=(a++[10])::Bm rest
 |[],rest,_=>by rw[List.nil_append,Bm,if_pos rfl];rfl
 |c::a,rest,h=>by
  have hc:¬c=10:=fun e=>h (by rw[e];exact List.mem_cons_self ..)
  rw[List.cons_append,Bm,if_neg hc,Kn a rest (fun hm=>h (List.mem_cons_of_mem _ hm))];rfl
theorem Md:∀ (a:List UInt8),(10:UInt8)∉a→a≠[]→Bm a=[a]
 |[],_,h=>absurd rfl h
 |[c],h,_=>by
  have hc:¬c=10:=fun e=>h (by rw[e];exact List.mem_cons_self ..)
  rw[Bm,if_neg hc];rfl
 |c::d::a,h,_=>by
  have hc:¬c=10:=fun e=>h (by rw[e];exact List.mem_cons_self ..)
  rw[Bm,if_neg hc,Md (d::a) (fun hm=>h (List.mem_cons_of_mem _ hm)) (by simp)]
theorem getD_eq{α:Type}{l:List α}{i:Nat}(h:i<l.length)(d:α):l.getD i d=l[i]:=by simp[List.getD_eq_getElem?_getD,List.getElem?_eq_getElem h]
theorem TA{t:List UInt8}{f i:Nat}{n:Int}{x:Src}(hi:i<t.length)(hf:f≤i)(h10:t.getD i 0=10)(hno:(10:UInt8)∉(t.drop f).take (i-f)) :
  FF (Bm (t.drop f)) n x=if (El x ((t.drop f).take (i-f)) (n+1)).2=0 then FF (Bm (t.drop (i+1))) (n+1) (El x ((t.drop f).take (i-f)) (n+1)).1 else (x,n+1,(El x ((t.drop f).take (i-f)) (n+1)).2):=by
 have e:t.drop f=(t.drop f).take (i-f)++10::t.drop (i+1):=by
  conv=>lhs;rw[←List.take_append_drop (i-f) (t.drop f)]
  rw[List.drop_drop,show f+(i-f)=i by omega,List.drop_eq_getElem_cons hi,←getD_eq hi 0,h10]
 have e2:Bm (t.drop f)=((t.drop f).take (i-f)++[10])::Bm (t.drop (i+1)):=by
  conv=>lhs;rw[e]
  rw[Kn _ _ hno]
 rw[e2,FF,if_neg (by simp),List.dropLast_concat]
theorem Vt{t:List UInt8}{f:Nat}{n:Int}{x:Src}(hno:(10:UInt8)∉t.drop f):FF (Bm (t.drop f)) n x=if f<t.length then (x,n+1,8) else (x,n,0):=by
 by_cases h:f<t.length
 ·have hne:t.drop f≠[]:=fun e=>by have:=congrArg List.length e;simp at this;omega
  rw[if_pos h,Md _ hno hne,FF,if_pos];intro e;exact hno (List.mem_of_getLast? e)
 ·rw[if_neg h,List.drop_eq_nil_of_le (by omega)];rfl
theorem TB{t:List UInt8}{f i:Nat}(hi:i<t.length)(hf:f≤i)(h10:t.getD i 0≠10)(hno:(10:UInt8)∉(t.drop f).take (i-f)):(10:UInt8)∉(t.drop f).take (i+1-f):=by
 have hd:(t.drop f)[i-f]?=some (t.getD i 0):=by rw[List.getElem?_drop,show f+(i-f)=i by omega,List.getElem?_eq_getElem hi,getD_eq hi]
 rw[show i+1-f=(i-f)+1 by omega,List.take_add_one,hd];intro h;rcases List.mem_append.1 h with h |h
 ·exact hno h
 ·have h':(10:UInt8)=t.getD i 0:=by simpa using h
  exact h10 h'.symm
theorem Qg(s:List UInt8)(h:(DL s).2.2=true):(DL s).2.1.length≤16:=by
 unfold DL at h ⊢;dsimp only at h ⊢;split
 ·rename_i hc
  have:=hc.2.2;simp only[Cp,Bool.and_eq_true,decide_eq_true_eq]at this;exact this.1.1.2
 ·split<;>simp
theorem Vp{x:Src}{m:Nat}(h:I6 x m)(s:List UInt8)(n:Int):I6 (El x s n).1 (m+1):=by
 obtain⟨h1,h2,h3,h4,h5⟩:=h;unfold El;by_cases c1:s.getLast?=some 58∧Cp s.dropLast=true
 ·rw[if_pos c1];by_cases c2:Lq x.labels s.dropLast=true
  ·rw[if_pos c2];exact⟨h1,h2,h3,Nat.le_succ_of_le h4,h5⟩
  ·rw[if_neg c2];exact⟨h1,h2,h3,by simp;omega,h5⟩
 ·rw[if_neg c1];by_cases c3:(DL s).2.2=false
  ·rw[if_pos c3];exact⟨h1,h2,h3,Nat.le_succ_of_le h4,h5⟩
  ·rw[if_neg c3];by_cases c4:64≤x.l.length
   ·rw[if_pos c4];exact⟨h1,h2,h3,Nat.le_succ_of_le h4,h5⟩
   ·rw[if_neg c4];refine⟨by simp[h1],by simp[h2],by simp;omega,Nat.le_succ_of_le h4,fun y hy=>?_⟩;rcases List.mem_append.1 hy with hy |hy
    ·exact h5 y hy
    ·rw[List.mem_singleton.1 hy];exact Qg _ (by simpa using c3)
structure RX (w W:World) (N:Nat) (v0 vl vn vr:Value) (l:List In) (names:List (List UInt8)) (rows:List Int) (labels:List (List UInt8×Nat)):Prop where
 b:Below N w W
 c2:W.heap[N]?=some (.cells #[.slice none 0 0,.int .i64 0,.int .i64 0] 26 (0,0))
 c5:W.heap[N+1]?=some (.cells #[v0,.int .i64 0,.int .i64 0] 26 (0,0))
 q0:BM W N v0 l
 q1:E7 W N vn names
 q2:Bo W N vr rows
 q3:GO W N vl labels
section
variable {w W W1:World} {N:Nat} {v0 vl vn vr u:Value} {l:List In} {names:List (List UInt8)} {rows:List Int} {labels:List (List UInt8×Nat)} {i:In} {z:List UInt8} {n:Int} {p:List UInt8×Nat}
theorem RX.hz(h:RX w W N v0 vl vn vr l names rows labels):N≤W.heap.size:=Nat.le_of_lt (Bl h.c2)
theorem RX.keep(h:RX w W N v0 vl vn vr l names rows labels)(hb:Below W.heap.size W W1):RX w W1 N v0 vl vn vr l names rows labels :=
 ⟨h.b.trans (hb.mono h.hz),Bk hb h.c2,Bk hb h.c5,Om h.q0 (fun k hk=>hb.block k (Ol h.q0 k hk)),Om h.q1 (fun k hk=>hb.block k (Ol h.q1 k hk)),h.q2.keep hb,h.q3.keep hb⟩
theorem RX.a3(h:RX w W N v0 vl vn vr l names rows labels)(hr:GO W1 N u (labels++[p]))(hg:W.grownBy W1 vl.ownBlock):RX w W1 N v0 u vn vr l names rows (labels++[p]) :=
 ⟨h.b.grown hg h.hz (fun k hk=>Ob h.q3 k hk),Bg h.c2 hg (Oa h.q3 h.c2 (by decide)),Bg h.c5 hg (Oa h.q3 h.c5 (by decide)),Cl h.q0 h.q3 (by decide) hg,Cl h.q1 h.q3 (by decide) hg,Cl h.q2 h.q3 (by decide) hg,hr⟩
theorem RX.a1(h:RX w W N v0 vl vn vr l names rows labels)(hr:E7 W1 N u (names++[z]))(hg:W.grownBy W1 vn.ownBlock):RX w W1 N v0 vl u vr l (names++[z]) rows labels :=
 ⟨h.b.grown hg h.hz (fun k hk=>Ob h.q1 k hk),Bg h.c2 hg (Oa h.q1 h.c2 (by decide)),Bg h.c5 hg (Oa h.q1 h.c5 (by decide)),Cl h.q0 h.q1 (by decide) hg,hr,Cl h.q2 h.q1 (by decide) hg,Cl h.q3 h.q1 (by decide) hg⟩
theorem RX.a2(h:RX w W N v0 vl vn vr l names rows labels)(hr:Bo W1 N u (rows++[n]))(hg:W.grownBy W1 vr.ownBlock):RX w W1 N v0 vl vn u l names (rows++[n]) labels :=
 ⟨h.b.grown hg h.hz (fun k hk=>Ob h.q2 k hk),Bg h.c2 hg (Oa h.q2 h.c2 (by decide)),Bg h.c5 hg (Oa h.q2 h.c5 (by decide)),Cl h.q0 h.q2 (by decide) hg,Cl h.q1 h.q2 (by decide) hg,hr,Cl h.q3 h.q2 (by decide) hg⟩
theorem RX.a0(h:RX w W N v0 vl vn vr l names rows labels)(hr:BM W1 N u (l++[i]))(hg:W.grownBy W1 v0.ownBlock):RX w (W1.setCell ⟨N+1,0,none⟩ u) N u vl vn vr (l++[i]) names rows labels:=by
 have hc5:=Bg h.c5 hg (Oa h.q0 h.c5 (by decide));have hc2:=Bg h.c2 hg (Oa h.q0 h.c2 (by decide));exact⟨(h.b.grown hg h.hz (fun k hk=>Ob h.q0 k hk)).setCell (show N≤N+1 by omega) u,Ba hc2 (show N≠N+1 by omega) u,Bs hc5 0 u,Rs hr hc5 (by decide) 0 u,Rs (Cl h.q1 h.q0 (by decide) hg) hc5 (by decide) 0 u,Rs (Cl h.q2 h.q0 (by decide) hg) hc5 (by decide) 0 u,Rs (Cl h.q3 h.q0 (by decide) hg) hc5 (by decide) 0 u⟩
end
theorem RX.start(w:World):RX w ((w.alloc (.cells #[.slice none 0 0,.int .i64 0,.int .i64 0] 26)).alloc (.cells #[.slice none 0 0,.int .i64 0,.int .i64 0] 26)) w.heap.size (.slice none 0 0) (.slice none 0 0) (.slice none 0 0) (.slice none 0 0) [] [] [] [] :=
 ⟨((Below.refl w.heap.size w).alloc (Nl _) _).alloc (by simp) _,AF (Bv w _) _,Dh w _ _,.nil _ _,.nil _ _,.nil _ _,.nil _ _⟩
theorem Dl{W:World}{base n size:Nat}{e:TypeId}{v:Value}{xs:List Value}(h:W.ownsRow base e size v n xs):∃ A c,v=.slice A n c:=by
 rcases h.2 with ⟨rfl,h0⟩ |⟨g,cap,cur,rfl,_⟩
 ·exact⟨none,0,by rw[h0]⟩
 ·exact⟨_,_,rfl⟩
section
variable {w W W1:World} {N:Nat} {v0 vl vn vr u:Value} {l:List In} {names:List (List UInt8)} {rows:List Int} {labels:List (List UInt8×Nat)} {i:In} {s:List UInt8} {n:Int} {p:List UInt8×Nat}
theorem RX.facts(h:RX w W N v0 vl vn vr l names rows labels):W.cell? ⟨N,0,none⟩=some (.slice none 0 0)∧W.cell? ⟨N,1,none⟩=some (.int .i64 0)∧W.cell? ⟨N,2,none⟩=some (.int .i64 0)∧W.frozen? ⟨N,0,none⟩=false∧W.frozen? ⟨N,1,none⟩=false∧W.frozen? ⟨N,2,none⟩=false∧N<W.heap.size :=
 ⟨(Bc h.c2 0).trans rfl,(Bc h.c2 1).trans rfl,(Bc h.c2 2).trans rfl,Bf h.c2 0,Bf h.c2 1,Bf h.c2 2,Bl h.c2⟩
theorem RX.JC(h:RX w W N v0 vl vn vr l names rows labels):W.cell? ⟨N+1,0,none⟩=some v0∧W.cell? ⟨N+1,1,none⟩=some (.int .i64 0)∧W.cell? ⟨N+1,2,none⟩=some (.int .i64 0)∧W.frozen? ⟨N+1,0,none⟩=false∧W.frozen? ⟨N+1,1,none⟩=false∧W.frozen? ⟨N+1,2,none⟩=false∧N+1<W.heap.size :=
 ⟨(Bc h.c5 0).trans rfl,(Bc h.c5 1).trans rfl,(Bc h.c5 2).trans rfl,Bf h.c5 0,Bf h.c5 1,Bf h.c5 2,Bl h.c5⟩
theorem RX.Vq(h:RX w W N v0 vl vn vr l names rows labels)(a b c:Value):∀ W',W'=((W.setCell ⟨N,0,none⟩ a).setCell ⟨N,1,none⟩ b).setCell ⟨N,2,none⟩ c →
  W'.heap[N]?=some (.cells #[a,b,c] 26 (0,0))∧Below N w W':=by
 rintro W' rfl;exact⟨Bs (Bs (Bs h.c2 0 a) 1 b) 2 c,((h.b.setCell (Nl _) _).setCell (Nl _) _).setCell (Nl _) _⟩
end
theorem T9{t:List UInt8}{x:Src}{n e:Int}(h:FF (Bm t) 0 Src.zero=(x,n,e))(he:e≠0):AH t=(Pg.zero,n,e):=by
 unfold AH;rw[h];dsimp only;rw[if_pos he]
theorem Sd(l:List UInt8)(q:Nat)(hq:l.length=q+1)(W:World):(Instr.slice 9 (.string ⟨l.toArray⟩) none (some (.int .i64 (q:Int))) none).run Tryz.prog W=.ok (.string ⟨l.dropLast.toArray⟩) W:=by
 have hz:(⟨l.toArray⟩:ByteArray).size=l.length:=by simp[ByteArray.size]
 rw[run_slice_string_h W 9 ⟨l.toArray⟩ Tryz.underlying9 .i64 (q:Int) (by omega) (by rw[hz];omega),Ea,List.dropLast_eq_take,hq];simp
theorem PG(l:List UInt8)(q:Nat)(hq:l.length=q+1):(⟨l.toArray⟩:ByteArray).extract 0 q=⟨l.dropLast.toArray⟩:=by
 rw[Ea,List.dropLast_eq_take,hq];simp
theorem Xs(l:List UInt8)(q:Nat)(hq:l.length=q+1):l.getLast?=some (l.getD q 0):=by
 rw[List.getLast?_eq_getElem?,hq,List.getElem?_eq_getElem (by omega),getD_eq (by omega)];rfl
section
variable {ops:Array Oper} {o:Oper} {a:Act} {K:Act→World→Prop} {Q:Exit→Act→World→Prop} {E:Prop} {W:World}
theorem Vr(hgd:o.guard=none)(x:Operand)(ho:o.op=.buildSlice 84 1 #[(0,x)])(s:List UInt8)(k:Nat)(hx:a.eval x=.agg #[.string ⟨s.toArray⟩,.int .i64 (k:Int)])
  (h:∀ g W1,Below W.heap.size W W1→W1.heap[g]?=some (.cells #[.string ⟨s.toArray⟩,.int .i64 (k:Int)] 88 (0,0))→K (a.put o.dst (.slice (some ⟨g,0,none⟩) 1 1)) W1) :
  if Region.wanted o (yielded ops a.tmps)=true then Oper.wp Tryz.prog o a W K Q else E:=by
 rw[if_pos (by simp[Region.wanted,hgd])];obtain⟨i9,hi,hz0,hz1,hz2⟩:=info_parts RU;refine wp_buildSlice 84 88 1 _ ho #[.string ⟨s.toArray⟩,.int .i64 (k:Int)] i9 (.agg #[.string ⟨#[]⟩,.int .i64 0]) Tryz.underlying84 hi hz0 (by rw[hz1];decide) (by rw[hz1];decide) ?_ (h _ _ (Bw W _) (Bv _ _));rw[hz1];simp only[List.map_toArray,List.map_cons,List.map_nil,hx]
 kernel_rfl
theorem Vs(hgd:o.guard=none)(s x:Operand)(ho:o.op=.call {callee:=.builtin .append,args:=#[s,x],argTypes:=#[84,84]})
  (base g:Nat)(y:List UInt8×Nat)(v:Value)(xs:List (List UInt8×Nat))(hs:a.eval s=v)(hr:GO W base v xs)(hx:a.eval x=.slice (some ⟨g,0,none⟩) 1 1)
  (hy:W.heap[g]?=some (.cells #[.string ⟨y.1.toArray⟩,.int .i64 (y.2:Int)] 88 (0,0)))(hl:xs.length≤1000000)(hb:base≤W.heap.size)
  (h:∀ v' W1,GO W1 base v' (xs++[y])→W.grownBy W1 v.ownBlock→(v'.ownBlock=v.ownBlock∨v'.ownBlock=some W.heap.size)→K (a.put o.dst v') W1) :
  if Region.wanted o (yielded ops a.tmps)=true then Oper.wp Tryz.prog o a W K Q else E:=by
 obtain⟨i9,hi,hz0,hz1,hz2⟩:=info_parts RU;refine Gh hgd s x 84 ho base 88 i9 (.agg #[.string ⟨#[]⟩,.int .i64 0]) 2 24 Tryz.underlying84 hi hz0 hz1 hz2 rfl (by decide) v xs.length (ER xs) hs hr g #[.string ⟨y.1.toArray⟩,.int .i64 (y.2:Int)] (0,0) hx hy rfl ?_ hl (by decide) hb ?_
 ·simp[Value.oneCell']
 ·intro v' W1 h1 h2 h4;refine h v' W1 ?_ h2 h4;unfold GO;rw[IT,List.length_append];exact h1
end
def Hr(x:Src)(k:Nat)(done:List In):List In ⊕ Int :=
 match Hg x.labels x.l.length (x.l.drop k) (x.names.drop k) (x.rows.drop k) with
 |.inl r=>.inl (done++r)
 |.inr e=>.inr e
theorem Rw(x:Src):Hr x 0 []=Hg x.labels x.l.length x.l x.names x.rows:=by
 unfold Hr;simp only[List.drop_zero,List.nil_append];cases Hg x.labels x.l.length x.l x.names x.rows<;>rfl
theorem TC(x:Src)(k:Nat)(done:List In)(h:x.l.length≤k):Hr x k done=.inl done:=by
 unfold Hr;rw[List.drop_eq_nil_of_le h];simp[Hg]
theorem Rl{x:Src}{k:Nat}{done:List In}(h:k<x.l.length)(h1:x.names.length=x.l.length)(h2:x.rows.length=x.l.length) :
  Hr x k done=if x.names.getD k []=[] then Hr x (k+1) (done++[x.l.getD k In.zero]) else
   if Cy x.labels (x.names.getD k []) x.l.length<0 then .inr (x.rows.getD k 0) else Hr x (k+1) (done++[{x.l.getD k In.zero with q:=Cy x.labels (x.names.getD k []) x.l.length}]):=by
 unfold Hr;rw[Dz x.l k In.zero h,Dz x.names k [] (by omega),Dz x.rows k 0 (by omega)];simp only[Hg];by_cases hs:x.names.getD k []=[]
 ·rw[if_pos hs,if_pos hs];cases Hg x.labels x.l.length (x.l.drop (k+1)) (x.names.drop (k+1)) (x.rows.drop (k+1))<;>simp
 ·rw[if_neg hs,if_neg hs];by_cases hf:Cy x.labels (x.names.getD k []) x.l.length<0
  ·rw[if_pos hf,if_pos hf]
  ·rw[if_neg hf,if_neg hf];cases Hg x.labels x.l.length (x.l.drop (k+1)) (x.names.drop (k+1)) (x.rows.drop (k+1))<;>simp
theorem Xt{t:List UInt8}{x:Src}{n:Int}(h:FF (Bm t) 0 Src.zero=(x,n,0)):AH t=match Hr x 0 []with
  |.inr e=>(Pg.zero,e,10)
  |.inl k=>if Cy x.labels [108,111,99,107] x.l.length<0∨Cy x.labels [117,110,108,111,99,107] x.l.length<0 then (Pg.zero,0,10)
   else (⟨k,Cy x.labels [108,111,99,107] x.l.length,Cy x.labels [117,110,108,111,99,107] x.l.length⟩,0,0):=by
 unfold AH;rw[h,Rw];dsimp only;rw[if_neg (by simp)];cases Hg x.labels x.l.length x.l x.names x.rows<;>rfl
theorem BM.Yl{W:World}{base k n c g:Nat}{xs:List In}(h:BM W base (.slice (some ⟨g,0,none⟩) n c) xs)(hk:k<xs.length)(q:Int) :
  BM (W.setCell ⟨g,k*8+7,none⟩ (.int .i64 q)) base (.slice (some ⟨g,0,none⟩) n c) (xs.set k {xs.getD k In.zero with q:=q}):=by
 obtain⟨h1,h2⟩:=h;rcases h2 with ⟨h0,_⟩ |⟨g',cap,cur,h0,hb,hg,hc,hm,hs,ht⟩
 ·cases h0
 ·cases h0;refine⟨by rw[JN,List.length_set],.inr ⟨g,c,_,by rw[List.length_set],hb,Bs hg (k*8+7) _,by rw[List.length_set];exact hc,hm,by simpa using hs,?_⟩⟩;rw[List.length_set,←GS xs k q hk,←ht];simp[List.take_set]
section
variable {w W W1:World} {N:Nat} {v0 vl vn vr u:Value} {l:List In} {names:List (List UInt8)} {rows:List Int} {labels:List (List UInt8×Nat)} {i:In} {s:List UInt8} {n:Int} {p:List UInt8×Nat}
theorem RX.Sx{g m c k:Nat}(h:RX w W N (.slice (some ⟨g,0,none⟩) m c) vl vn vr l names rows labels)(hk:k<l.length)(q:Int) :
  RX w (W.setCell ⟨g,k*8+7,none⟩ (.int .i64 q)) N (.slice (some ⟨g,0,none⟩) m c) vl vn vr (l.set k {l.getD k In.zero with q:=q}) names rows labels:=by
 obtain⟨cells,hc⟩:=Dy h.q0 g rfl;have hg:N≤g:=Ob h.q0 g rfl;have hn2:N≠g:=fun e=>by have:=h.c2;rw[e,hc]at this;cases this
 have hn5:N+1≠g:=fun e=>by have:=h.c5;rw[e,hc]at this;cases this
 have off:∀ {e:TypeId} {size m:Nat} {v:Value} {xs:List Value},W.ownsRow N e size v m xs→e≠90→(W.setCell ⟨g,k*8+7,none⟩ (.int .i64 q)).ownsRow N e size v m xs:=fun hr hne =>
  Om hr fun j hj=>Below.heap_setCell W ⟨g,k*8+7,none⟩ _ _ (fun e=>Oa hr hc hne (by rw[hj,←show j=g from e]))
 exact⟨h.b.setCell (show N≤g from hg) _,Ba h.c2 (show N≠g from hn2) _,Ba h.c5 (show N+1≠g from hn5) _,h.q0.Yl hk q,off h.q1 (by decide),off h.q2 (by decide),off h.q3 (by decide)⟩
theorem RX.S(h:RX w W N v0 vl vn vr l names rows labels):Af (RX w W N v0 vl vn vr l names rows labels)∧W.cell? ⟨N+1,0,none⟩=some v0:=⟨⟨h⟩,h.JC.1⟩
end
theorem Xu{w W W1:World}{N:Nat}{v0 vl vn vr:Value}{l:List In}{names:List (List UInt8)}{rows:List Int}{labels:List (List UInt8×Nat)}{a b:Addr}{y z:Value}(hb:Below W.heap.size W W1)(h:Af (RX w W N v0 vl vn vr l names rows labels)∧W.cell? a=some y∧W.cell? b=some z) :
 Af (RX w W1 N v0 vl vn vr l names rows labels)∧W1.cell? a=some y∧W1.cell? b=some z:=⟨⟨h.1.out.keep hb⟩,Ck hb h.2.1,Ck hb h.2.2⟩
theorem PI{w W W1:World}{N:Nat}{v0 vl vn vr:Value}{l:List In}{names:List (List UInt8)}{rows:List Int}{labels:List (List UInt8×Nat)}{a:Addr}{y:Value}(hb:Below W.heap.size W W1)(h:Af (RX w W N v0 vl vn vr l names rows labels)∧W.cell? a=some y) :
 Af (RX w W1 N v0 vl vn vr l names rows labels)∧W1.cell? a=some y:=⟨⟨h.1.out.keep hb⟩,Ck hb h.2⟩
theorem RX.lu{w W:World}{N:Nat}{v0 vl vn vr:Value}{l:List In}{names:List (List UInt8)}{rows:List Int}{labels:List (List UInt8×Nat)}(h:RX w W N v0 vl vn vr l names rows labels)(a b:Value):∀ W',W'=(W.setCell ⟨N+1,1,none⟩ a).setCell ⟨N+1,2,none⟩ b →
  Below N w W'∧W'.heap[N]?=some (.cells #[.slice none 0 0,.int .i64 0,.int .i64 0] 26 (0,0))∧W'.heap[N+1]?=some (.cells #[v0,a,b] 26 (0,0))∧BM W' N v0 l:=by
 rintro W' rfl;exact⟨(h.b.setCell (show N≤N+1 by omega) _).setCell (show N≤N+1 by omega) _,Ba (Ba h.c2 (show N≠N+1 by omega) _) (show N≠N+1 by omega) _,Bs (Bs h.c5 1 a) 2 b,Rs (Rs h.q0 h.c5 (by decide) 1 a) (Bs h.c5 1 a) (by decide) 2 b⟩
theorem AaC{W:World}{N g k:Nat}{y:Value}(hn:N≠g)(a b c:Value)(h:W.cell? ⟨g,k,none⟩=some y):(((W.setCell ⟨N,0,none⟩ a).setCell ⟨N,1,none⟩ b).setCell ⟨N,2,none⟩ c).cell? ⟨g,k,none⟩=some y :=
 (World.cell?_setCell_far _ ⟨N,2,none⟩ ⟨g,k,none⟩ c hn).trans ((World.cell?_setCell_far _ ⟨N,1,none⟩ ⟨g,k,none⟩ b hn).trans ((World.cell?_setCell_far W ⟨N,0,none⟩ ⟨g,k,none⟩ a hn).trans h))
theorem Vu{w W:World}{N:Nat}{x y z v0:Value}{l:List In}(hb:Below N w W)(hc:W.heap[N]?=some (.cells #[x,y,z] 26 (0,0)))(hr:BM W N v0 l)(a b c:Value):∀ W',W'=((W.setCell ⟨N,0,none⟩ a).setCell ⟨N,1,none⟩ b).setCell ⟨N,2,none⟩ c →
  W'.heap[N]?=some (.cells #[a,b,c] 26 (0,0))∧BM W' N v0 l∧Below N w W':=by
 rintro W' rfl;exact⟨Bs (Bs (Bs hc 0 a) 1 b) 2 c,Rs (Rs (Rs hr hc (by decide) 0 a) (Bs hc 0 a) (by decide) 1 b) (Bs (Bs hc 0 a) 1 b) (by decide) 2 c,((hb.setCell (Nl _) _).setCell (Nl _) _).setCell (Nl _) _⟩
end
end Go.Proofs.YtnmahobjmpdkdaaGreatDoor

/- Parts: Exec, Cells, Pool0. -/
import Derived.Test.YtjjpiefgdggghaaGreatDoorK05
import Derived.Test.YtjjpiefgdggghaaGreatDoorK28
import Derived.Test.YtjjpiefgdggghaaGreatDoorK24
import Derived.Test.YtjjpiefgdggghaaGreatDoorK08
set_option linter.unusedVariables false
set_option linter.unusedSimpArgs false
set_option maxRecDepth 100000
set_option maxHeartbeats 40000000
namespace Go.Proofs.YtjjpiefgdggghaaGreatDoor
section
open Go.RowKit Go.Proofs.YtjjpiefgdggghaaGreatDoorW.PrintWords
theorem MR:(Tryz.prog.info? 155).map (fun i=>(i.zero,i.size,i.bytes))=some (some (.agg Ld),9,72):=by kernel_rfl
def Cx:List CoreM→List Value
 |[]=>[]
 |c::l=>c.arr.toList++Cx l
theorem GY:∀ (l:List CoreM) (c:CoreM),Cx (l++[c])=Cx l++c.arr.toList
 |[],c=>by simp[Cx]
 |d::l,c=>by simp[Cx,GY l c]
theorem VC(a0 a1 a2 a3 a4 a5 a6 a7 a8:Value)(r:List Value)(k:Nat):(a0::a1::a2::a3::a4::a5::a6::a7::a8::r)[k+9]?=r[k]?:=rfl
theorem Jf:∀ (l:List CoreM) (t j:Nat),t<l.length→j<9→(∀ c∈l,c.ok)→(Cx l)[t*9+j]?=(l.getD t ⟨[],0⟩).arr[j]?
 |c::l,0,j,_,hj,h=>by
  obtain⟨a0,a1,a2,a3,a4,a5,a6,a7,a8,he⟩:=Cm (h c (List.mem_cons_self ..)).len;simp only[Cx,he,Nat.zero_mul,Nat.zero_add,List.getD_cons_zero];rw[List.getElem?_append_left (by simpa using hj),Array.getElem?_toList]
 |c::l,t+1,j,ht,hj,h=>by
  obtain⟨a0,a1,a2,a3,a4,a5,a6,a7,a8,he⟩:=Cm (h c (List.mem_cons_self ..)).len;have ih:=Jf l t j (by simpa using ht) hj (fun c hc=>h c (List.mem_cons_of_mem _ hc));rw[show(t+1)*9+j=(t*9+j)+9 by omega];simp only[Cx,he,List.getD_cons_succ];exact(VC _ _ _ _ _ _ _ _ _ _ _).trans ih
def X2(l:List Value)(k:Nat)(z0 z1 z2 z3 z4 z5 z6 z7 z8:Value):List Value:=((((((((l.set k z0).set (k+1) z1).set (k+2) z2).set (k+3) z3).set (k+4) z4).set (k+5) z5).set (k+6) z6).set (k+7) z7).set (k+8) z8
theorem HY{c':CoreM}{z0 z1 z2 z3 z4 z5 z6 z7 z8:Value}(hz:c'.arr=#[z0,z1,z2,z3,z4,z5,z6,z7,z8]):∀ (l:List CoreM) (t:Nat),t<l.length→(∀ c∈l,c.ok) →
  X2 (Cx l) (t*9) z0 z1 z2 z3 z4 z5 z6 z7 z8=Cx (l.set t c')
 |c::l,0,_,h=>by
  obtain⟨a0,a1,a2,a3,a4,a5,a6,a7,a8,he⟩:=Cm (h c (List.mem_cons_self ..)).len;simp[Cx,he,hz,X2]
 |c::l,t+1,ht,h=>by
  obtain⟨a0,a1,a2,a3,a4,a5,a6,a7,a8,he⟩:=Cm (h c (List.mem_cons_self ..)).len;have ih:=HY hz l t (by simpa using ht) (fun c hc=>h c (List.mem_cons_of_mem _ hc));unfold X2 at ih ⊢;simp only[Cx,he,Sc,List.cons_append,List.nil_append];rw[←ih,show(t+1)*9=t*9+9 by omega,show t*9+9+1=t*9+1+9 by omega,show t*9+9+2=t*9+2+9 by omega,show t*9+9+3=t*9+3+9 by omega,show t*9+9+4=t*9+4+9 by omega,
   show t*9+9+5=t*9+5+9 by omega,show t*9+9+6=t*9+6+9 by omega,show t*9+9+7=t*9+7+9 by omega,show t*9+9+8=t*9+8+9 by omega]
  rfl
def EL(W:World)(N:Nat)(v:Value)(xs:List CoreM):Prop:=W.ownsRow N 155 9 v xs.length (Cx xs)
def E6(W:World)(N:Nat)(v:Value)(xs:List Nat):Prop:=W.ownsRow N 45 1 v xs.length (xs.map fun x:Nat=>Value.int .u32 x)
def Ef(xs:List (Nat×Nat)):List Value:=xs.flatMap fun p=>[.int .i64 (p.1:Int),.int .i64 (p.2:Int)]
def Dn(W:World)(N:Nat)(v:Value)(xs:List (Nat×Nat)):Prop:=W.ownsRow N 128 2 v xs.length (Ef xs)
theorem Gi{W:World}{b b':Nat}{e:TypeId}{size n:Nat}{v:Value}{xs:List Value}(h:W.ownsRow b e size v n xs)(hb:b'≤b):W.ownsRow b' e size v n xs:=by
 obtain⟨h1,h2⟩:=h;refine⟨h1,h2.imp id ?_⟩;rintro⟨g,cap,cur,hv,hg,r⟩;exact⟨g,cap,cur,hv,Nat.le_trans hb hg,r⟩
theorem VD{W:World}{base:Nat}{e:TypeId}{size n g c:Nat}{xs:List Value}(h:W.ownsRow base e size (.slice (some ⟨g,0,none⟩) n c) n xs)(k:Nat)(hk:k+8<n*size)(v0 v1 v2 v3 v4 v5 v6 v7 v8:Value) :
  (((((((((W.setCell ⟨g,k,none⟩ v0).setCell ⟨g,k+1,none⟩ v1).setCell ⟨g,k+2,none⟩ v2).setCell ⟨g,k+3,none⟩ v3).setCell ⟨g,k+4,none⟩ v4).setCell ⟨g,k+5,none⟩ v5).setCell ⟨g,k+6,none⟩ v6).setCell ⟨g,k+7,none⟩ v7).setCell ⟨g,k+8,none⟩ v8).ownsRow base e size (.slice (some ⟨g,0,none⟩) n c) n (X2 xs k v0 v1 v2 v3 v4 v5 v6 v7 v8) :=
 DF (DF (DF (DF (DF (DF (DF (DF (DF h k (by omega) v0) (k+1) (by omega) v1) (k+2) (by omega) v2) (k+3) (by omega) v3) (k+4) (by omega) v4) (k+5) (by omega) v5) (k+6) (by omega) v6) (k+7) (by omega) v7) (k+8) (by omega) v8
theorem VE{B:Nat}{Ts:List TypeId}{M:Nat→Prop}{a W:World}{g k:Nat}{cs:Array Value}{t:TypeId}(h:Cq B Ts M a W)(hg:W.heap[g]?=some (.cells cs t (0,0)))(ht:t∈Ts)(hB:B≤g)(v0 v1 v2 v3 v4 v5 v6 v7 v8:Value) :
  Cq B Ts M a (((((((((W.setCell ⟨g,k,none⟩ v0).setCell ⟨g,k+1,none⟩ v1).setCell ⟨g,k+2,none⟩ v2).setCell ⟨g,k+3,none⟩ v3).setCell ⟨g,k+4,none⟩ v4).setCell ⟨g,k+5,none⟩ v5).setCell ⟨g,k+6,none⟩ v6).setCell ⟨g,k+7,none⟩ v7).setCell ⟨g,k+8,none⟩ v8):=by
 have b0:=Bs hg k v0;have f0:=h.set (p:=⟨g,k,none⟩) hg ht hB v0;have b1:=Bs b0 (k+1) v1;have f1:=f0.set (p:=⟨g,k+1,none⟩) b0 ht hB v1;have b2:=Bs b1 (k+2) v2;have f2:=f1.set (p:=⟨g,k+2,none⟩) b1 ht hB v2;have b3:=Bs b2 (k+3) v3;have f3:=f2.set (p:=⟨g,k+3,none⟩) b2 ht hB v3;have b4:=Bs b3 (k+4) v4;have f4:=f3.set (p:=⟨g,k+4,none⟩) b3 ht hB v4;have b5:=Bs b4 (k+5) v5;have f5:=f4.set (p:=⟨g,k+5,none⟩) b4 ht hB v5;have b6:=Bs b5 (k+6) v6;have f6:=f5.set (p:=⟨g,k+6,none⟩) b5 ht hB v6;have b7:=Bs b6 (k+7) v7;have f7:=f6.set (p:=⟨g,k+7,none⟩) b6 ht hB v7;exact f7.set (p:=⟨g,k+8,none⟩) b7 ht hB v8
def Jz:List TypeId:=[155,45,94]
structure Dp (w W:World) (px:Nat) (vl vc vw vr:Value) (pl:Option Addr) (x:AG):Prop where
 b:Below w.heap.size w W
 Ms:w.heap.size≤px
 bx:∃ acc:Int,W.heap[px]?=some (.cells #[vl,.int .i64 x.pg.lock,.int .i64 x.pg.unlock,vc,vw,.pointer pl,vr,.int .i64 acc] 94 (0,0))
 code:Cg w vl x.pg.l.length (By x.pg.l)
 cells:Dn W w.heap.size vc x.cells
 words:E6 W w.heap.size vw x.words
 AP:EL W w.heap.size vr x.AP
 ok:∀ c∈x.AP,c.ok
 Wg:∀ v∈x.words,v<4294967296
section
variable {w W W1:World} {px:Nat} {vl vc vw vr:Value} {pl:Option Addr} {x:AG} {M:Nat→Prop}
theorem Dp.hz(h:Dp w W px vl vc vw vr pl x):w.heap.size≤W.heap.size:=h.b.size
theorem Dp.keep(h:Dp w W px vl vc vw vr pl x)(hb:Below W.heap.size W W1):Dp w W1 px vl vc vw vr pl x :=
 ⟨h.b.trans (hb.mono h.hz),h.Ms,h.bx.imp fun _ hb'=>Bk hb hb',h.code,Om h.cells (fun k hk=>hb.block k (Ol h.cells k hk)),Om h.words (fun k hk=>hb.block k (Ol h.words k hk)),Om h.AP (fun k hk=>hb.block k (Ol h.AP k hk)),h.ok,h.Wg⟩
theorem Dp.core(h:Dp w W px vl vc vw vr pl x){t:Nat}(ht:t<x.AP.length):(x.core t).ok:=by
 refine h.ok _ ?_;unfold AG.core;rw[List.getD_eq_getElem?_getD,List.getElem?_eq_getElem ht];exact List.getElem_mem _
theorem Dp.row(h:Dp w W px vl vc vw vr pl x){t:Nat}(ht:t<x.AP.length) :
  ∃ g c,vr=.slice (some ⟨g,0,none⟩) x.AP.length c∧w.heap.size≤g∧(∃ cs,W.heap[g]?=some (.cells cs 155 (0,0)))∧∀ j,j<9→W.cell? ⟨g,t*9+j,none⟩=(x.core t).arr[j]?:=by
 obtain⟨g,c,hv,_,hg,⟨cs,hcs,_⟩,hcell⟩:=CO h.AP (by omega);refine⟨g,c,hv,hg,⟨cs,hcs⟩,fun j hj=>?_⟩;have e:=Jf x.AP t j ht hj h.ok;have hl:∃ y,(x.core t).arr[j]?=some y:=⟨_,Array.getElem?_eq_getElem (by rw[Py _ (h.core ht).len];exact hj)⟩
 obtain⟨y,hy⟩:=hl;rw[hy];exact hcell _ _ (e.trans hy)
theorem NS{W:World}{b1 b2:Nat}{e1 e2:TypeId}{s1 s2 n1 n2 g c:Nat}{v:Value}{xs ys:List Value}(h1:W.ownsRow b1 e1 s1 v n1 xs)(h2:W.ownsRow b2 e2 s2 (.slice (some ⟨g,0,none⟩) n2 c) n2 ys)(hne:e1≠e2):∀ k,v.ownBlock=some k→k≠g:=by
 intro k hk e;subst e;rcases h2.2 with ⟨h,_⟩ |⟨g',cap,cur,h,_,hh,_⟩
 ·cases h
 ·cases h;exact Oa h1 hh hne hk.symm
theorem Dp.put{g cap t:Nat}{c':CoreM}{v0 v1 v2 v3 v4 v5 v6 v7 v8:Value}(h:Dp w W px vl vc vw vr pl x)(hv:vr=.slice (some ⟨g,0,none⟩) x.AP.length cap)(ht:t<x.AP.length)(hc:c'.arr=#[v0,v1,v2,v3,v4,v5,v6,v7,v8])(ho:c'.ok) :
  ∀ W',W'=(((((((((W.setCell ⟨g,t*9,none⟩ v0).setCell ⟨g,t*9+1,none⟩ v1).setCell ⟨g,t*9+2,none⟩ v2).setCell ⟨g,t*9+3,none⟩ v3).setCell ⟨g,t*9+4,none⟩ v4).setCell ⟨g,t*9+5,none⟩ v5).setCell ⟨g,t*9+6,none⟩ v6).setCell ⟨g,t*9+7,none⟩ v7).setCell ⟨g,t*9+8,none⟩ v8)→Dp w W' px vl vc vw vr pl {x with AP:=x.AP.set t c'}∧Cq w.heap.size Jz M W W':=by
 rintro W' rfl;subst hv;have hcores:=h.AP;unfold EL at hcores;obtain⟨g',c2,hv2,hg,⟨cs,hcs⟩,_⟩:=h.row ht;obtain⟨rfl,rfl⟩:g=g'∧cap=c2:=by cases hv2;exact⟨rfl,rfl⟩
 obtain⟨acc,hbx⟩:=h.bx;have F:Cq w.heap.size Jz M W _:=VE (k:=t*9) (Cq.refl _ _ _ W) hcs (by decide) hg v0 v1 v2 v3 v4 v5 v6 v7 v8;have far:∀ k,k≠g→((((((((((W.setCell ⟨g,t*9,none⟩ v0).setCell ⟨g,t*9+1,none⟩ v1).setCell ⟨g,t*9+2,none⟩ v2).setCell ⟨g,t*9+3,none⟩ v3).setCell ⟨g,t*9+4,none⟩ v4).setCell ⟨g,t*9+5,none⟩ v5).setCell ⟨g,t*9+6,none⟩ v6).setCell ⟨g,t*9+7,none⟩ v7).setCell ⟨g,t*9+8,none⟩ v8)).heap[k]?=W.heap[k]?:=fun k hk=>by
  rw[Below.heap_setCell _ ⟨g,t*9+8,none⟩ _ k hk,Below.heap_setCell _ ⟨g,t*9+7,none⟩ _ k hk,Below.heap_setCell _ ⟨g,t*9+6,none⟩ _ k hk,Below.heap_setCell _ ⟨g,t*9+5,none⟩ _ k hk,Below.heap_setCell _ ⟨g,t*9+4,none⟩ _ k hk,Below.heap_setCell _ ⟨g,t*9+3,none⟩ _ k hk,Below.heap_setCell _ ⟨g,t*9+2,none⟩ _ k hk,Below.heap_setCell _ ⟨g,t*9+1,none⟩ _ k hk,Below.heap_setCell _ ⟨g,t*9,none⟩ _ k hk]
 refine⟨⟨h.b.trans (F.below h.hz),h.Ms,⟨acc,(far px (CU hbx hcs (by decide))).trans hbx⟩,h.code,Om h.cells (fun k hk=>far k (NS h.cells hcores (by decide) k hk)),Om h.words (fun k hk=>far k (NS h.words hcores (by decide) k hk)),?_,?_,h.Wg⟩,F⟩
 ·unfold EL;rw[←HY hc x.AP t ht h.ok,List.length_set];exact VD hcores (t*9) (by omega) v0 v1 v2 v3 v4 v5 v6 v7 v8
 ·intro c hcm;rcases List.mem_or_eq_of_mem_set hcm with hm |rfl
  ·exact h.ok c hm
  ·exact ho
end
theorem Xe:(Tryz.prog.info? 128).map (fun i=>(i.zero,i.size,i.bytes))=some (some (.agg #[.int .i64 0,.int .i64 0]),2,16):=by kernel_rfl
section
variable {ops:Array Oper} {rest:List Oper} {o:Oper} {a:Act} {Q:Exit→Act→World→Prop} {W:World}
theorem YD(hgd:o.guard=none)(s x:Operand)(ho:o.op=.call {callee:=.builtin .append,args:=#[s,x],argTypes:=#[77,77]})
  (base g:Nat)(y:Nat×Nat)(v:Value)(xs:List (Nat×Nat))(hs:a.eval s=v)(hr:Dn W base v xs)(hx:a.eval x=.slice (some ⟨g,0,none⟩) 1 1)
  (hy:W.heap[g]?=some (.cells #[.int .i64 (y.1:Int),.int .i64 (y.2:Int)] 128 (0,0)))(hl:xs.length≤1000000)(hb:base≤W.heap.size)
  (h:∀ v' W1,Dn W1 base v' (xs++[y])→W.grownBy W1 v.ownBlock→wpList Tryz.prog ops Q rest (a.put o.dst v') W1) :
  wpList Tryz.prog ops Q (o::rest) a W:=by
 obtain⟨i9,hi,hz0,hz1,hz2⟩:=info_parts Xe;refine wpList_append_own_at _ hgd s x 77 ho base 128 i9 (.agg #[.int .i64 0,.int .i64 0]) 2 16 Tryz.underlying77 hi hz0 hz1 hz2 rfl (by decide) v xs.length (Ef xs) hs hr ⟨g,0,none⟩ 1 1 [.int .i64 (y.1:Int),.int .i64 (y.2:Int)] hx rfl ?_ ?_ ?_ ?_ hb ?_
 ·intro j u hj;rw[add_plain];exact(Bc hy j).trans (by simpa using hj)
 ·intro u hu;simp at hu;rcases hu with rfl |rfl<;>rfl
 ·simp[maxLen];omega
 ·omega
 ·intro v' W1 h1 h2 _ h4;refine h v' W1 ?_ h2;unfold Dn;rw[show Ef (xs++[y])=Ef xs++[.int .i64 (y.1:Int),.int .i64 (y.2:Int)] by simp[Ef],List.length_append];exact h1
end
theorem Ke{W:World}{base n size:Nat}{e:TypeId}{v:Value}{xs:List Value}(h:W.ownsRow base e size v n xs):∃ A c,v=.slice A n c:=by
 rcases h.2 with ⟨rfl,h0⟩ |⟨g,cap,cur,rfl,_⟩
 ·exact⟨none,0,by rw[h0]⟩
 ·exact⟨_,_,rfl⟩
theorem Hl:∀ (l:List Nat) (k s:Nat),B9 k (l++[s])=B9 k l++(List.range s).map (fun i=>(k+l.length,i))
 |[],k,s=>by simp[B9]
 |x::l,k,s=>by
  rw[List.cons_append,B9,Hl l,B9,List.append_assoc,List.length_cons];rw[show k+1+l.length=k+(l.length+1) by omega]
theorem QN{ss:List Nat}{a:Nat}(h:a<ss.length):B9 0 (ss.take (a+1))=B9 0 (ss.take a)++(List.range (ss.getD a 0)).map (fun i=>(a,i)):=by
 rw[List.take_succ_eq_append_getElem h,Hl,List.length_take,Nat.min_eq_left (by omega),Nat.zero_add,List.getD_eq_getElem?_getD,List.getElem?_eq_getElem h];rfl
theorem H5:∀ (l:List Nat) (k:Nat),(B9 k l).length=l.sum
 |[],_=>rfl
 |x::l,k=>by simp[B9,H5 l]
theorem JR(W:World)(vs:Value)(ss:List Nat)(hs:Cg W vs ss.length (ss.map fun s:Nat=>Value.int .i64 (s:Int)))(h8:ss.length≤8)(hle:∀ s∈ss,s≤4096)(DD:ss.sum≤8192) :
  Calls Tryz.prog 37 #[vs] W fun e W'=>∃ v,e=.returned (.tuple #[v,.bool true])∧Dn W' W.heap.size v (AL ss)∧Below W.heap.size W W':=by
 obtain⟨A,c,rfl⟩:=hs.slice;obtain⟨m,hm⟩:∃ m,ss.length=m:=⟨_,rfl⟩
 obtain⟨fin,hfin⟩:∃ z,AL ss=z:=⟨_,rfl⟩
 have hfl:fin.length≤8192:=by rw[←hfin];unfold AL;rw[H5];exact DD
 rw[hm]at hs h8 ⊢;rw[hfin];have m8:¬(8:Int)<(m:Int):=by omega
 replace hm:=Az hm;replace hs:=Az hs;replace hfin:=Az hfin;replace hle:=Az hle;replace DD:=Az DD;go_enter Tryz.func37,Tryz.ntmps37;go_wp2_with fail
 go_loopw [4,13] (fun v4 v13 wr=>∃ (k:Nat),v13=.int .i64 (k:Int)∧k≤m∧Af (Dn wr W.heap.size v4 (B9 0 (ss.take k)))∧Af (Below W.heap.size W wr)) (fun _ v13 _=>m-(intOf v13).toNat)
 case atStart=>exact⟨0,rfl,Nat.zero_le _,⟨⟨rfl,.inl ⟨rfl,rfl⟩⟩⟩,⟨Below.refl _ _⟩⟩
 case round =>
  obtain⟨k,rfl,hk,hR,hB⟩:=hrel;clear m8;by_cases hlt:k<m
  ·have hkl:k<ss.length:=by rw[hm.out];exact hlt
   obtain⟨g,c',hvs,hcell⟩:=(hs.out.keep hB.out).cells (by omega);cases hvs;have ck:=hcell k (.int .i64 ((ss.getD k 0:Nat):Int)) (by simp[hkl,List.getD_eq_getElem?_getD]);have hct:=QN hkl;have hsl:ss.getD k 0≤4096:=hle.out _ (by rw[List.getD_eq_getElem?_getD,List.getElem?_eq_getElem hkl];exact List.getElem_mem _);have hpre:(B9 0 (ss.take (k+1))).length≤8192:=by
    rw[H5];have h1:ss.sum=(ss.take (k+1)).sum+(ss.drop (k+1)).sum:=by rw[←List.sum_append,List.take_append_drop]
    have:=DD.out;omega
   generalize ss.getD k 0=s at ck hct hsl;rw[hct]at hpre;rw[List.length_append,List.length_map,List.length_range]at hpre;have s0:¬(s:Int)<0:=by omega
   have s1:¬(4096:Int)<(s:Int):=by omega
   have k0:(0:Int)≤(k:Int):=by omega
   have k1:(k:Int)<(m:Int):=by omega
   have nw:IntKind.i64.wrap ((k:Int)+1)=(k:Int)+1:=by rw[IntKind.wrap_i64];omega
   replace hct:=Az hct;clear hcell;go_wp2_with fail
   go_loopw [4,7] (fun v4 v7 wr=>∃ (i:Nat),v7=.int .i64 (i:Int)∧i≤s∧Af (Dn wr W.heap.size v4 (B9 0 (ss.take k)++(List.range i).map (fun j=>(k,j))))∧Af (Below W.heap.size W wr)) (fun _ v7 _=>s-(intOf v7).toNat)
   case atStart=>exact⟨0,rfl,Nat.zero_le _,⟨by simpa using hR.out⟩,hB⟩
   case round =>
    obtain⟨i,rfl,hi,hRi,hBi⟩:=hrel;clear ck s0 s1;by_cases Jo:i<s
    ·have i1:(i:Int)<(s:Int):=by omega
     have iw:IntKind.i64.wrap ((i:Int)+1)=(i:Int)+1:=by rw[IntKind.wrap_i64];omega
     have hbl:=Bw wr (.cells #[.int .i64 (k:Int),.int .i64 (i:Int)] 128);have hR2:Dn (wr.alloc (.cells #[.int .i64 (k:Int),.int .i64 (i:Int)] 128)) W.heap.size _ _:=Om hRi.out (fun k hk=>hbl.block k (Ol hRi.out k hk));have hsz:=hBi.out.size;have hll:(B9 0 (ss.take k)++(List.range i).map (fun j=>(k,j))).length≤1000000:=by
      rw[List.length_append,List.length_map,List.length_range];omega
     replace hbl:=Az (hBi.out.trans (hbl.mono hsz));replace hR2:=Az hR2;go_wp2_with (at_builtin;refine YD rfl (.tmp 29) (.tmp 33) rfl W.heap.size wr.heap.size (k,i) _ _ rfl hR2.out rfl (Bv _ _) hll ?hb3 ?_)
     case hb3=>simp;omega
     rintro v3 W3 hr3 hg3;have hb3:=hbl.out.grown hg3 (by simp;omega) (fun k hk=>Ob hR2.out k hk);rw[show(List.range i).map (fun j=>(k,j))++[(k,i)]=(List.range (i+1)).map (fun j=>(k,j)) by rw[List.range_succ,List.map_append];rfl]at hr3;replace hr3:=Az hr3;replace hb3:=Az hb3;clear hR2 hg3 hbl;go_wp2;go_roundw
     case rel=>exact⟨i+1,by go_num,Jo,hr3,hb3⟩
     case measure=>simp[intOf];omega
    ·obtain rfl:i=s:=by omega
     have i1:¬(i:Int)<(i:Int):=by omega
     have hRk:=hRi.out;rw[←hct.out]at hRk;replace hRk:=Az hRk;go_wp2;go_roundw
     case rel=>exact⟨k+1,by go_num,hlt,hRk,hBi⟩
     case measure=>simp[intOf];omega
  ·obtain rfl:k=m:=by omega
   have n1:¬(k:Int)<(k:Int):=by omega
   have hRk:=hR.out;rw[←hm.out,List.take_length,show B9 0 ss=fin from hfin.out]at hRk;obtain⟨A3,c3,rfl⟩:=Ke hRk;replace hRk:=Az hRk;have fl:(fin.length:Int)≤8192:=by omega
   go_wp2;go_ret2
   exact⟨_,rfl,hRk.out,hB.out⟩
theorem WE:(Tryz.prog.info? 26).map (fun i=>(i.zero,i.size,i.bytes))=some (some (.slice none 0 0),1,24):=by kernel_rfl
def Jp(W:World)(base:Nat)(v:Value)(k:Nat):Prop:=W.ownsRow base 26 1 v k (List.replicate k (.slice none 0 0))
section
variable {ops:Array Oper} {rest:List Oper} {o:Oper} {a:Act} {Q:Exit→Act→World→Prop} {W:World}
theorem WG(hgd:o.guard=none)(s x:Operand)(ho:o.op=.call {callee:=.builtin .append,args:=#[s,x],argTypes:=#[137,137]})
  (base g:Nat)(v:Value)(k:Nat)(hs:a.eval s=v)(hr:Jp W base v k)(hx:a.eval x=.slice (some ⟨g,0,none⟩) 1 1)
  (hy:W.heap[g]?=some (.cells #[.slice none 0 0] 26 (0,0)))(hl:k≤1000000)(hb:base≤W.heap.size)
  (h:∀ v' W1,Jp W1 base v' (k+1)→W.grownBy W1 v.ownBlock→wpList Tryz.prog ops Q rest (a.put o.dst v') W1) :
  wpList Tryz.prog ops Q (o::rest) a W:=by
 obtain⟨i9,hi,hz0,hz1,hz2⟩:=info_parts WE;refine wpList_append_own_at _ hgd s x 137 ho base 26 i9 (.slice none 0 0) 1 24 Tryz.underlying137 hi hz0 hz1 hz2 rfl (by decide) v k (List.replicate k (.slice none 0 0)) hs hr ⟨g,0,none⟩ 1 1 [.slice none 0 0] hx rfl ?_ ?_ ?_ ?_ hb ?_
 ·intro j u hj;rw[add_plain];exact(Bc hy j).trans (by simpa using hj)
 ·intro u hu;simp at hu;subst hu;rfl
 ·simp[maxLen];omega
 ·omega
 ·intro v' W1 h1 h2 _ h4;refine h v' W1 ?_ h2;unfold Jp;rw[List.replicate_succ'];exact h1
end
theorem OY(W:World)(n:Nat)(h1:1≤n)(h2:n≤64) :
  Calls Tryz.prog 101 #[.int .i64 (n:Int),.int .i64 0] W fun e W'=>∃ g,e=.returned (.pointer (some ⟨g,0,none⟩))∧Below W.heap.size W W':=by
 have a1:¬(n:Int)<1:=by omega
 have a2:¬(64:Int)<(n:Int):=by omega
 have hb0:=Bw W (.cells #[.int .i64 0,.slice none 0 0,.slice none 0 0,.slice none 0 0] 139);have hn0:=Bv W (.cells #[.int .i64 0,.slice none 0 0,.slice none 0 0,.slice none 0 0] 139);replace hb0:=Az hb0;replace hn0:=Az hn0;go_enter Tryz.func101,Tryz.ntmps101;go_wp2_with fail
 go_loopw [6] (fun v6 wr=>∃ (k:Nat) (vf:Value),v6=.int .i64 (k:Int)∧k≤n∧Af (wr.heap[W.heap.size]?=some (.cells #[.int .i64 0,vf,.slice none 0 0,.slice none 0 0] 139 (0,0)))∧Af (Jp wr W.heap.size vf k)∧Af (Below W.heap.size W wr)) (fun v6 _=>n-(intOf v6).toNat)
 case atStart=>exact⟨0,.slice none 0 0,rfl,Nat.zero_le _,hn0,⟨⟨rfl,.inl ⟨rfl,rfl⟩⟩⟩,hb0⟩
 case round =>
  obtain⟨k,vf,rfl,hk,hn,hR,hB⟩:=hrel;clear hn0 hb0 a1 a2;by_cases hlt:k<n
  ·have k1:(k:Int)<(n:Int):=by omega
   have kw:IntKind.i64.wrap ((k:Int)+1)=(k:Int)+1:=by rw[IntKind.wrap_i64];omega
   have hbl:=Bw wr (.cells #[.slice none 0 0] 26);have hR2:Jp (wr.alloc (.cells #[.slice none 0 0] 26)) W.heap.size vf k:=Om hR.out (fun k hk=>hbl.block k (Ol hR.out k hk));have hn2:=Bk hbl hn.out;have hsz:=hB.out.size;have c1:wr.cell? ⟨W.heap.size,1,none⟩=some vf:=(Bc hn.out 1).trans rfl;have z0:W.heap.size<wr.heap.size:=Bl hn.out;replace hbl:=Az (hB.out.trans (hbl.mono hsz));replace hR2:=Az hR2;replace hn2:=Az hn2;clear hn;go_wp2_with fail
   go_loopw [7,8] (fun v7 v8 wi=>v7=.slice none 0 0∧v8=.int .i64 1∧wi=wr) (fun _ v8 _=>0)
   case atStart=>exact⟨rfl,rfl,rfl⟩
   case round =>
    obtain⟨rfl,rfl,hw⟩:=hrel;subst hw;go_wp2_with (at_builtin;refine WG rfl (.tmp 66) (.tmp 68) rfl W.heap.size wr.heap.size vf k rfl hR2.out rfl (Bv _ _) ?hl3 ?hb3 ?_)
    case hl3=>omega
    case hb3=>simp;omega
    rintro v3 W3 hr3 hg3;have hb3:=hbl.out.grown hg3 (by simp;omega) (fun k hk=>Ob hR2.out k hk);have hn3:=Bg hn2.out hg3 (Oa hR2.out hn2.out (by decide));have f3:=Bf hn3 1;have c3:W3.cell? ⟨W.heap.size,1,none⟩=some vf:=(Bc hn3 1).trans rfl;have hn4:=Bs hn3 1 v3;have hr4:Jp _ W.heap.size v3 (k+1):=Rs hr3 hn3 (by decide) 1 v3;have hb4:=hb3.setCell (p:=⟨W.heap.size,1,none⟩) (Nl _) v3;obtain⟨A3,n3,c3',rfl⟩:=AB hr3;replace hn4:=Az hn4;replace hr4:=Az hr4;replace hb4:=Az hb4;clear hr3 hg3 hn3 hb3 hR2 hbl hn2;go_wp2;go_roundw
    case rel=>exact⟨k+1,_,by go_num,hlt,hn4,hr4,hb4⟩
    case measure=>simp[intOf];omega
  ·obtain rfl:k=n:=by omega
   have n1:¬(k:Int)<(k:Int):=by omega
   go_wp2;go_ret;exact⟨⟨_,rfl⟩,hB.out⟩
end
end Go.Proofs.YtjjpiefgdggghaaGreatDoor

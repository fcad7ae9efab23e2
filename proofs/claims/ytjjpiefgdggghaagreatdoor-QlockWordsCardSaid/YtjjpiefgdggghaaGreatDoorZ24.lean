/- Parts: AsmKit. -/
import Derived.Test.YtjjpiefgdggghaaGreatDoorZ02
import Derived.Test.YtjjpiefgdggghaaGreatDoorZ23
import Derived.Test.YtjjpiefgdggghaaGreatDoorZ04
import Derived.Test.YtjjpiefgdggghaaGreatDoorZ05
import Derived.RangeFuncLeaves
set_option linter.unusedVariables false
set_option linter.unusedSimpArgs false
set_option maxRecDepth 100000
set_option maxHeartbeats 40000000
namespace Go.Proofs.YtjjpiefgdggghaaGreatDoor
section
open Go.RowKit Go.Proofs.YtjjpiefgdggghaaGreatDoorW.PrintWords
structure Fw (x:Src) (m:Nat):Prop where
 n:x.names.length=x.l.length
 r:x.rows.length=x.l.length
 l:x.l.length≤64
 b:x.labels.length≤m
 s:∀ s∈x.names,s.length≤16
theorem LN(s:List UInt8)(h:(Ek s).2.2=true):(Ek s).2.1.length≤16:=by
 rw[KV]at h ⊢;split at h
 ·rename_i hc
  rw[if_pos hc];simp only[B8,Bool.and_eq_true,decide_eq_true_eq]at h;exact h.1.1.2
 ·rename_i hc
  rw[if_neg hc];simp
theorem MF(x:Src)(s:List UInt8)(n:Int){m:Nat}(h:Fw x m):Fw (BB x s n).1 (m+1):=by
 obtain⟨h1,h2,h3,h4,h5⟩:=h;unfold BB;dsimp only;repeat' split
 all_goals first
  |exact⟨h1,h2,h3,by omega,h5⟩
  |exact⟨h1,h2,h3,by simp;omega,h5⟩
  |(rename_i hx hh;exact⟨by simp[h1],by simp[h2],by simp;omega,by simpa using (by omega:x.labels.length≤m+1),fun s hs=>by
   rcases List.mem_append.1 hs with hs |hs
   ·exact h5 s hs
   ·rw[List.mem_singleton.1 hs];exact LN _ (by simpa using hx)⟩)
theorem Kv(W:World)(base gx bm m:Nat)(v0 v1 v2:Value)(x:Src)(s:List UInt8)(n:Int)(he:Env W)(hX:Cr W base gx bm v0 v1 v2 x)(hs:s.length≤90000)(hb0:base≤W.heap.size)(hok:Fw x m)(hm:m≤1000000) :
  Calls Tryz.prog 67 #[.pointer (some ⟨gx,0,none⟩),.string ⟨s.toArray⟩,.int .i64 n] W fun e W1=>e=.returned (.int .i64 (BB x s n).2) ∧
   ∃ u0 u1 u2,Cr W1 base gx bm u0 u1 u2 (BB x s n).1∧AN W W1 base gx bm v0 v1 v2 u0 u1 u2:=by
 by_cases hend:s.getLast?=some 10
 ·by_cases hlab:s.dropLast.getLast?=some 58∧B8 s.dropLast.dropLast=true
  ·exact Kq W base gx bm v0 v1 v2 x s n he hX hs hb0 (by have:=hok.l;omega) (Nat.le_trans hok.b hm) hend hlab.1 hlab.2
  ·by_cases hbad:(Ek s.dropLast).2.2=false∨64≤x.l.length
   ·exact L6 W base gx bm v0 v1 v2 x s n he hX hs hb0 hend hlab hbad
   ·have h1:(Ek s.dropLast).2.2=true:=by simpa using fun h=>hbad (.inl h)
    exact Mu W base gx bm v0 v1 v2 x s n he hX hs hb0 hend hlab h1 (Nat.lt_of_not_le fun h=>hbad (.inr h)) hok.n hok.r
 ·exact M8 W base gx bm v0 v1 v2 x s n he hX hs hb0 hend
theorem HQ(s:List UInt8):∀ (pre:List (List UInt8)) (n:Int) (x:Src),(BR pre n x).2.2=0 →
  BR (pre++[s]) n x=if (BB (BR pre n x).1 s (n+pre.length+1)).2=0 then ((BB (BR pre n x).1 s (n+pre.length+1)).1,n+pre.length+1,0)
   else ((BR pre n x).1,n+pre.length+1,(BB (BR pre n x).1 s (n+pre.length+1)).2)
 |[],n,x,_=>by simp[BR]
 |p::pre,n,x,h=>by
  by_cases h1:(BB x p (n+1)).2=0
  ·have e1:∀ l,BR (p::l) n x=BR l (n+1) (BB x p (n+1)).1:=fun l=>by simp only[BR];rw[if_pos h1]
   rw[e1]at h;rw[List.cons_append,e1,e1,HQ s pre _ _ h];have e:n+1+(pre.length:Int)+1=n+((p::pre).length:Int)+1:=by simp;omega
   rw[e]
  ·simp only[BR]at h;rw[if_neg h1]at h;exact absurd h h1
theorem HP(rest:List (List UInt8)):∀ (pre:List (List UInt8)) (n:Int) (x:Src),(BR pre n x).2.2≠0→BR (pre++rest) n x=BR pre n x
 |[],n,x,h=>absurd rfl h
 |p::pre,n,x,h=>by
  simp only[BR,List.cons_append]at h ⊢;by_cases h1:(BB x p (n+1)).2=0
  ·rw[if_pos h1]at h;rw[if_pos h1,if_pos h1,HP rest pre _ _ h]
  ·rw[if_neg h1,if_neg h1]
theorem EX:∀ (t s:List UInt8),s∈AH t→s.length≤t.length
 |[],s,h=>by simp[AH]at h
 |c::l,s,h=>by
  unfold AH at h;split at h
  ·rcases List.mem_cons.1 h with rfl |h
   ·simp
   ·exact Nat.le_succ_of_le (EX l s h)
  ·split at h
   ·simp at h;subst h;simp
   ·rename_i w ws e
    rcases List.mem_cons.1 h with rfl |h
    ·have:=EX l w (by rw[e];simp)
     simpa using this
    ·exact Nat.le_succ_of_le (EX l s (by rw[e];exact List.mem_cons_of_mem _ h))
theorem Gg:∀ (t:List UInt8),(AH t).length≤t.length
 |[]=>Nl _
 |c::l=>by
  have:=Gg l;unfold AH;split
  ·simpa using this
  ·split
   ·simp
   ·rename_i w ws e
    rw[e]at this;simp at this ⊢;omega
structure AI (w0 W:World) (N:Nat) (x:Src) (k:Nat):Prop where
 b:Below N w0 W
 c2:W.heap[N]?=some (.cells #[.slice none 0 0,.int .i64 0,.int .i64 0] 35 (0,0))
 c3:W.heap[N+1]?=some (.cells #[.int .i64 0] 3 (0,0))
 c4:W.heap[N+2]?=some (.cells #[.int .i64 0] 38 (0,0))
 c5:W.heap[N+5]?=some (.cells #[.pointer (some ⟨N+4,0,none⟩)] 118 (0,0))
 c6:W.heap[N+6]?=some (.cells #[.int .i64 k] 3 (0,0))
 z:N+8≤W.heap.size
 ok:Fw x k
 s:∃ v0 v1 v2,Cr W N (N+4) (N+3) v0 v1 v2 x∧(∀ j,v0.ownBlock=some j→N+8≤j)∧(∀ j,v1.ownBlock=some j→N+8≤j)∧(∀ j,v2.ownBlock=some j→N+8≤j)
section
variable {w0 W W1:World} {N k:Nat} {x:Src}
theorem AI.far(h:AI w0 W N x k)(hb:Below N w0 W1)(hz:W.heap.size≤W1.heap.size)(hk:∀ j o,W.heap[j]?=some o→j≠N+7→(j<N+8∨o.isCells=true)→W1.heap[j]?=some o):AI w0 W1 N x k:=by
 obtain⟨v0,v1,v2,hs,h0,h1,h2⟩:=h.s;have own:∀ {e:TypeId} {size n:Nat} {v:Value} {xs:List Value},W.ownsRow N e size v n xs→(∀ j,v.ownBlock=some j→N+8≤j)→W1.ownsRow N e size v n xs:=fun ho hv =>
  Om ho fun j hj=>by
   obtain⟨cells,hc⟩:=Cg ho j hj;have:=hv j hj;rw[hc];exact hk j _ hc (by omega) (.inr rfl)
 obtain⟨nm,D,⟨es,clock,hm,r⟩,hi,hn,hL⟩:=hs.m;exact⟨hb,hk _ _ h.c2 (by omega) (.inl (by omega)),hk _ _ h.c3 (by omega) (.inl (by omega)),hk _ _ h.c4 (by omega) (.inl (by omega)),hk _ _ h.c5 (by omega) (.inl (by omega)),hk _ _ h.c6 (by omega) (.inl (by omega)),Nat.le_trans h.z hz,h.ok,
  v0,v1,v2,⟨hk _ _ hs.s (by omega) (.inl (by omega)),own hs.r0 h0,own hs.r1 h1,own hs.r2 h2,⟨nm,D,⟨es,clock,hk _ _ hm (by omega) (.inl (by omega)),r⟩,hi,hn,hL⟩,hs.gb,hs.bb⟩,h0,h1,h2⟩
theorem AI.keep(h:AI w0 W N x k)(hb:Below W.heap.size W W1):AI w0 W1 N x k :=
 h.far (h.b.trans (hb.mono (by have:=h.z;omega))) hb.size fun j o hj _ _=>Bk hb hj
theorem AI.GV(h:AI w0 W N x k)(j:Nat)(v:Value):AI w0 (W.setCell ⟨N+7,j,none⟩ v) N x k :=
 h.far (h.b.setCell (show N≤N+7 by omega) v) (by simp) fun i o hi hne _=>(Below.heap_setCell W ⟨N+7,j,none⟩ v i hne).trans hi
theorem FP{N:Nat}{w0 W:World}(h:Below N w0 W){l:Nat}(hl:N≤l)(o:Obj):Below N w0 (W.putObj l o) :=
 ⟨h.os,h.tape,h.output,by rw[World.putObj_size];exact h.size,fun k hk=>(World.putObj_heap_other (by omega)).trans (h.block k hk)⟩
theorem AI.put(h:AI w0 W N x k){l:Nat}{o o':Obj}(hl:N+8≤l)(ho:W.heap[l]?=some o)(hn:o.isCells=false):AI w0 (W.putObj l o') N x k :=
 h.far (FP h.b (by omega) o') (by simp) fun j p hj _ hc=>by
  refine(World.putObj_heap_other (fun e=>?_)).trans hj;subst e;rcases hc with hc |hc
  ·omega
  ·rw[ho]at hj;cases hj;rw[hn]at hc;cases hc
theorem AI.num(h:AI w0 W N x k)(m:Nat)(hok:Fw x m):AI w0 (W.setCell ⟨N+6,0,none⟩ (.int .i64 m)) N x m:=by
 obtain⟨v0,v1,v2,hs,h0,h1,h2⟩:=h.s;have far:∀ {j:Nat} {o:Obj},W.heap[j]?=some o→j≠N+6→(W.setCell ⟨N+6,0,none⟩ (.int .i64 m)).heap[j]?=some o:=fun hj hne=>(Below.heap_setCell W ⟨N+6,0,none⟩ _ _ hne).trans hj
 have own:∀ {e:TypeId} {size n:Nat} {v:Value} {xs:List Value},W.ownsRow N e size v n xs→(∀ j,v.ownBlock=some j→N+8≤j)→(W.setCell ⟨N+6,0,none⟩ (.int .i64 m)).ownsRow N e size v n xs:=fun ho hv =>
  Om ho fun j hj=>Below.heap_setCell W ⟨N+6,0,none⟩ _ _ (show j≠N+6 by have:=hv j hj;omega)
 exact⟨h.b.setCell (show N≤N+6 by omega) _,far h.c2 (by omega),far h.c3 (by omega),far h.c4 (by omega),far h.c5 (by omega),Bs h.c6 0 _,by simpa using h.z,hok,
  v0,v1,v2,⟨far hs.s (by omega),own hs.r0 h0,own hs.r1 h1,own hs.r2 h2,hs.m.keep (Below.heap_setCell W ⟨N+6,0,none⟩ _ _ (show N+3≠N+6 by omega)),hs.gb,hs.bb⟩,h0,h1,h2⟩
theorem AI.line(h:AI w0 W N x k){x':Src}(hok:Fw x' k){v0 v1 v2 u0 u1 u2:Value}(h0:∀ j,v0.ownBlock=some j→N+8≤j)(h1:∀ j,v1.ownBlock=some j→N+8≤j)(h2:∀ j,v2.ownBlock=some j→N+8≤j)
  (hs:Cr W1 N (N+4) (N+3) u0 u1 u2 x')(hK:AN W W1 N (N+4) (N+3) v0 v1 v2 u0 u1 u2):AI w0 W1 N x' k∧W1.heap[N+7]?=W.heap[N+7]?:=by
 have hz:=h.z;have far:∀ {j:Nat},j<N+8→j≠N+4→j≠N+3→W1.heap[j]?=W.heap[j]?:=fun {j} hj a b =>
  hK.k j (by omega) a b (fun e=>by have:=h0 j e.symm;omega) (fun e=>by have:=h1 j e.symm;omega) (fun e=>by have:=h2 j e.symm;omega)
 refine⟨⟨h.b.trans hK.b,(far (by omega) (by omega) (by omega)).trans h.c2,(far (by omega) (by omega) (by omega)).trans h.c3,(far (by omega) (by omega) (by omega)).trans h.c4,(far (by omega) (by omega) (by omega)).trans h.c5,
  (far (by omega) (by omega) (by omega)).trans h.c6,Nat.le_trans h.z hK.b.size,hok,u0,u1,u2,hs,fun j hj=>?_,fun j hj=>?_,fun j hj=>?_⟩,far (by omega) (by omega) (by omega)⟩
 ·rcases hK.n0 j hj with e |e
  ·exact h0 j e
  ·omega
 ·rcases hK.n1 j hj with e |e
  ·exact h1 j e
  ·omega
 ·rcases hK.n2 j hj with e |e
  ·exact h2 j e
  ·omega
theorem KeepsFrom.line{v0 v1 v2 u0 u1 u2:Value}{B base gx bm:Nat}(hs:Cr W base gx bm v0 v1 v2 x)(hg:gx<B)(hm:bm<B)(hK:AN W W1 base gx bm v0 v1 v2 u0 u1 u2):KeepsFrom B W W1 :=
 ⟨hK.b.size,fun j o hB hj ho=>by
  have no:∀ {e:TypeId} {size n:Nat} {v:Value} {xs:List Value},W.ownsRow base e size v n xs→some j≠v.ownBlock:=fun hr e1=>by
   obtain⟨cells,hc⟩:=Cg hr j e1.symm;rw[hc]at hj;cases hj;cases ho
  exact(hK.k j (Bl hj) (by omega) (by omega) (no hs.r0) (no hs.r1) (no hs.r2)).trans hj⟩
theorem KeepsFrom.setCell{B:Nat}{p:Addr}(v:Value)(hp:p.block<B):KeepsFrom B W (W.setCell p v) :=
 ⟨by simp,fun j o hB hj _=>(Below.heap_setCell W p v j (by omega)).trans hj⟩
theorem KeepsFrom.drew(B:Nat):KeepsFrom B W W.drew:=(KeepsOthers.drew W).from B
end
structure AX (w0 W:World) (N:Nat) (line err:Int):Prop where
 b:Below N w0 W
 c2:W.heap[N]?=some (.cells #[.slice none 0 0,.int .i64 0,.int .i64 0] 35 (0,0))
 c3:W.heap[N+1]?=some (.cells #[.int .i64 line] 3 (0,0))
 c4:W.heap[N+2]?=some (.cells #[.int .i64 err] 38 (0,0))
theorem AX.far{w0 W W1:World}{N:Nat}{line err:Int}(h:AX w0 W N line err)(hb:Below N w0 W1)(hk:∀ j,j<N+3→W1.heap[j]?=W.heap[j]?):AX w0 W1 N line err :=
 ⟨hb,(hk _ (by omega)).trans h.c2,(hk _ (by omega)).trans h.c3,(hk _ (by omega)).trans h.c4⟩
theorem AX.of{w0 W:World}{N k:Nat}{x:Src}(h:AI w0 W N x k)(line err:Int) :
  AX w0 (((((W.setCell ⟨N,0,none⟩ (.slice none 0 0)).setCell ⟨N,1,none⟩ (.int .i64 0)).setCell ⟨N,2,none⟩ (.int .i64 0)).setCell ⟨N+1,0,none⟩ (.int .i64 line)).setCell ⟨N+2,0,none⟩ (.int .i64 err)) N line err:=by
 have far:∀ {W:World} {j g i:Nat} {o:Obj} (v:Value),W.heap[j]?=some o→j≠g→(W.setCell ⟨g,i,none⟩ v).heap[j]?=some o:=fun v hj hne=>(Below.heap_setCell _ ⟨_,_,none⟩ v _ hne).trans hj
 refine⟨((((h.b.setCell (Nl _) _).setCell (Nl _) _).setCell (Nl _) _).setCell (show N≤N+1 by omega) _).setCell (show N≤N+2 by omega) _,?_,?_,?_⟩
 ·exact far _ (far _ (Bs (Bs (Bs h.c2 0 _) 1 _) 2 _) (by omega)) (by omega)
 ·exact far _ (Bs (far _ (far _ (far _ h.c3 (by omega)) (by omega)) (by omega)) 0 _) (by omega)
 ·exact Bs (far _ (far _ (far _ (far _ h.c4 (by omega)) (by omega)) (by omega)) (by omega)) 0 _
theorem LD{F:Fence}{n:Nat}{P:Program}{fn:Func}{R:Ending→World→Prop}{a:Act}{W:World}{D:Nat}(hd:a.defers=[{target:=.collected D,args:=#[]}])(hD:W.heap[D]?=some (.deferred (some [])))
  (h:∃ v,(results fn a.tmps).run P (W.putObj D (.deferred none))=.ok v (W.putObj D (.deferred none))∧R (.returned v) (W.putObj D (.deferred none))):bodyPostM F n P fn R .ret a W:=by
 show LeavesInM F n P fn a.tmps R a.defers .returning W
 rw[hd];exact⟨by simp,.inl ⟨D,_,rfl,run_takeDeferred hD,h⟩⟩
theorem Jt{P:Program}{fn:Func}{p q r:Tmp}{t1 t2 t3:TypeId}(h:fn.results=#[.cell p t1,.cell q t2,.cell r t3])(tmps:Array Value)(w:World)(g1 g2 g3:Nat)(cs:Array Value)(x y:Value)(f1 f2 f3:Nat×Nat)(d:TypeDesc)
  (hp:tmps.getD p undef=.pointer (some ⟨g1,0,none⟩))(hg1:w.heap[g1]?=some (.cells cs t1 f1))(hu:P.underlying t1=some d)(hdd:(match d with |.struct _ |.array _ _=>true |_=>false)=true)(hi:(P.info? t1).map (·.size)=some cs.size)
  (hq:tmps.getD q undef=.pointer (some ⟨g2,0,none⟩))(l2:(loadVar t2 ⟨g2,0,none⟩).run P w=.ok x w)
  (hr:tmps.getD r undef=.pointer (some ⟨g3,0,none⟩))(l3:(loadVar t3 ⟨g3,0,none⟩).run P w=.ok y w) :
  (results fn tmps).run P w=.ok (.tuple #[.agg cs,x,y]) w:=by
 have hp':tmps[p]?.getD undef=.pointer (some ⟨g1,0,none⟩):=by simpa using hp
 have hq':tmps[q]?.getD undef=.pointer (some ⟨g2,0,none⟩):=by simpa using hq
 have hr':tmps[r]?.getD undef=.pointer (some ⟨g3,0,none⟩):=by simpa using hr
 have hl:=run_loadVar_row w g1 t1 t1 cs f1 d hg1 hu hdd hi;simp only[results,h];simp[Sem.run_bind,Result.andThen,hp',hq',hr',asAddr,hl,l2,l3]
def FA(x:Src)(k:Nat)(done:List In):List In ⊕ Int :=
 match fixF x (x.l.drop k) (x.names.drop k) (x.rows.drop k) with
 |.inl r=>.inl (done++r)
 |.inr e=>.inr e
theorem LC(x:Src):FA x 0 []=fixF x x.l x.names x.rows:=by
 unfold FA;simp only[List.drop_zero,List.nil_append];cases fixF x x.l x.names x.rows<;>rfl
theorem MG(x:Src)(k:Nat)(done:List In)(h:x.l.length≤k):FA x k done=.inl done:=by
 unfold FA;rw[List.drop_eq_nil_of_le h];simp[fixF]
theorem Cf{α:Type}(l:List α)(k:Nat)(d:α)(h:k<l.length):l.drop k=l.getD k d::l.drop (k+1):=by
 rw[List.drop_eq_getElem_cons h]
 congr 1
 simp[List.getD_eq_getElem?_getD,List.getElem?_eq_getElem h]
section
variable {x:Src} {k:Nat} {done:List In}
theorem LF(h:k<x.l.length)(h1:x.names.length=x.l.length)(h2:x.rows.length=x.l.length) :
  FA x k done=if x.names.getD k []=[] then FA x (k+1) (done++[x.l.getD k In.zero]) else
   match x.place (x.names.getD k []) with
   |none=>.inr (x.rows.getD k 0)
   |some p=>FA x (k+1) (done++[{x.l.getD k In.zero with q:=p}]):=by
 unfold FA;rw[Cf x.l k In.zero h,Cf x.names k [] (by omega),Cf x.rows k 0 (by omega)];simp only[fixF];by_cases hs:x.names.getD k []=[]
 ·rw[if_pos hs,if_pos hs];cases fixF x (x.l.drop (k+1)) (x.names.drop (k+1)) (x.rows.drop (k+1))<;>simp
 ·rw[if_neg hs,if_neg hs];cases x.place (x.names.getD k []) with
  |none=>rfl
  |some p=>cases fixF x (x.l.drop (k+1)) (x.names.drop (k+1)) (x.rows.drop (k+1))<;>simp
end
theorem EE:∀ (l:List In) (k:Nat) (q:Int) (h:k<l.length),(AP l).set (k*8+7) (.int .i64 q)=AP (l.set k {l.getD k In.zero with q:=q})
 |[],k,q,h=>by simp at h
 |i::l,0,q,h=>by
  cases i;simp[AP,In.cs]
 |i::l,k+1,q,h=>by
  have ih:=EE l k q (by simpa using h);have e:∀ j:List In,AP (i::j)=i.cs.toList++AP j:=fun j=>by simp[AP]
  rw[Sc,e,e,List.set_append_right _ _ (by simp[In.cs];omega)];have e8:i.cs.toList.length=8:=rfl;rw[e8,show(k+1)*8+7-8=k*8+7 by omega,ih];simp[List.getD_eq_getElem?_getD]
theorem BN.OR{W:World}{base k n c g:Nat}{xs:List In}(h:BN W base (.slice (some ⟨g,0,none⟩) n c) xs)(hk:k<xs.length)(q:Int) :
  BN (W.setCell ⟨g,k*8+7,none⟩ (.int .i64 q)) base (.slice (some ⟨g,0,none⟩) n c) (xs.set k {xs.getD k In.zero with q:=q}):=by
 obtain⟨h1,h2⟩:=h;rcases h2 with ⟨h0,_⟩ |⟨g',cap,cur,h0,hb,hg,hc,hm,hs,ht⟩
 ·cases h0
 ·cases h0;refine⟨by rw[Gd,List.length_set],.inr ⟨g,c,_,by rw[List.length_set],hb,Bs hg (k*8+7) _,by rw[List.length_set];exact hc,hm,by simpa using hs,?_⟩⟩;rw[List.length_set,←EE xs k q hk,←ht];simp[List.take_set]
theorem BN.cell{W:World}{base:Nat}{v:Value}{xs:List In}(h:BN W base v xs)(hn:0<xs.length) :
  ∃ g c,v=.slice (some ⟨g,0,none⟩) xs.length c∧xs.length≤c∧base≤g∧g<W.heap.size∧W.frozen? ⟨g,0,none⟩=W.frozen? ⟨g,0,none⟩∧∃ cs,W.heap[g]?=some (.cells cs 126 (0,0))∧xs.length*8≤cs.size:=by
 obtain⟨h1,h2⟩:=h;rcases h2 with ⟨rfl,h0⟩ |⟨g,cap,cur,rfl,hg,hh,hc,hm,hs,ht⟩
 ·omega
 ·exact⟨g,cap,rfl,hc,hg,Bl hh,rfl,cur,hh,by rw[hs];exact Nat.mul_le_mul_right _ hc⟩
theorem Dk.cell{W:World}{base:Nat}{v:Value}{xs:List (List UInt8)}(h:Dk W base v xs)(hn:0<xs.length) :
  ∃ g c,v=.slice (some ⟨g,0,none⟩) xs.length c∧xs.length≤c∧∀ j,j<xs.length→W.cell? ⟨g,j,none⟩=some (.string ⟨(xs.getD j []).toArray⟩):=by
 obtain⟨h1,h2⟩:=h;rcases h2 with ⟨rfl,h0⟩ |⟨g,cap,cur,rfl,hg,hh,hc,hm,hs,ht⟩
 ·omega
 ·refine⟨g,cap,rfl,hc,fun j hj=>(Bc hh j).trans ?_⟩;have e:(cur.toList.take (xs.length*1))[j]?=(xs.map fun s=>Value.string ⟨s.toArray⟩)[j]?:=by rw[ht]
  rw[List.getElem?_take_of_lt (by omega),Array.getElem?_toList]at e;rw[e];simp[List.getElem?_eq_getElem hj,List.getD_eq_getElem?_getD]
theorem Ju(s:List UInt8)(W:World):Calls Tryz.prog 66 #[.string ⟨s.toArray⟩] W fun e W1 =>
  e=.returned (.func (.func 94) #[] #[.pointer (some ⟨W.heap.size,0,none⟩)])∧W1=W.alloc (.cells #[.string ⟨s.toArray⟩] 9):=by
 go_enter Tryz.func66,Tryz.ntmps66;go_wp2;go_ret;exact⟨rfl,rfl⟩
structure BI (w0 W:World) (N D:Nat) (v0 v1 v2:Value) (x:Src) (l:List In):Prop where
 b:Below N w0 W
 c2:W.heap[N]?=some (.cells #[.slice none 0 0,.int .i64 0,.int .i64 0] 35 (0,0))
 c3:W.heap[N+1]?=some (.cells #[.int .i64 0] 3 (0,0))
 c4:W.heap[N+2]?=some (.cells #[.int .i64 0] 38 (0,0))
 c5:W.heap[N+5]?=some (.cells #[.pointer (some ⟨N+4,0,none⟩)] 118 (0,0))
 d:W.heap[D]?=some (.deferred (some []))
 s:Cr W N (N+4) (N+3) v0 v1 v2 {x with l:=l}
 o0:∀ j,v0.ownBlock=some j→N+8≤j
 o1:∀ j,v1.ownBlock=some j→N+8≤j
 o2:∀ j,v2.ownBlock=some j→N+8≤j
theorem BI.keep{w0 W W1:World}{N D:Nat}{v0 v1 v2:Value}{x:Src}{l:List In}(h:BI w0 W N D v0 v1 v2 x l)(hb:Below W.heap.size W W1):BI w0 W1 N D v0 v1 v2 x l :=
 ⟨h.b.trans (hb.mono (Nat.le_of_lt (Bl h.c2))),Bk hb h.c2,Bk hb h.c3,Bk hb h.c4,Bk hb h.c5,Bk hb h.d,h.s.keep hb,h.o0,h.o1,h.o2⟩
theorem BI.put{w0 W:World}{N D g n c k:Nat}{v1 v2:Value}{x:Src}{l:List In}(h:BI w0 W N D (.slice (some ⟨g,0,none⟩) n c) v1 v2 x l)(hk:k<l.length)(q:Int) :
  BI w0 (W.setCell ⟨g,k*8+7,none⟩ (.int .i64 q)) N D (.slice (some ⟨g,0,none⟩) n c) v1 v2 x (l.set k {l.getD k In.zero with q:=q}):=by
 have hg:N+8≤g:=h.o0 g rfl;obtain⟨cells,hc⟩:=Cg h.s.r0 g rfl;have far:∀ {j:Nat} {o:Obj},W.heap[j]?=some o→j≠g→(W.setCell ⟨g,k*8+7,none⟩ (.int .i64 q)).heap[j]?=some o:=fun hj hne=>(Below.heap_setCell W ⟨g,k*8+7,none⟩ _ _ hne).trans hj
 have off:∀ {e:TypeId} {size m:Nat} {v:Value} {xs:List Value},W.ownsRow N e size v m xs→e≠126→(W.setCell ⟨g,k*8+7,none⟩ (.int .i64 q)).ownsRow N e size v m xs:=fun hr hne =>
  Om hr fun j hj=>Below.heap_setCell W ⟨g,k*8+7,none⟩ _ _ (fun e=>Oa hr hc hne (by rw[hj,←show j=g from e]))
 exact⟨h.b.setCell (show N≤g by omega) _,far h.c2 (by omega),far h.c3 (by omega),far h.c4 (by omega),far h.c5 (by omega),far h.d (fun e=>by subst e;rw[h.d]at hc;cases hc),
  ⟨far h.s.s (by omega),h.s.r0.OR hk q,off h.s.r1 (by decide),off h.s.r2 (by decide),h.s.m.keep (Below.heap_setCell W ⟨g,k*8+7,none⟩ _ _ (show N+3≠g by omega)),h.s.gb,h.s.bb⟩,h.o0,h.o1,h.o2⟩
theorem LZ(done:List In)(l:List In)(k:Nat)(i:In)(hd:done.length=k)(hk:k<l.length):(done++l.drop k).set k i=(done++[i])++l.drop (k+1):=by
 rw[List.set_append_right _ _ (by omega),hd,Nat.sub_self,List.drop_eq_getElem_cons hk,Sb];simp
theorem get_at(done:List In)(l:List In)(k:Nat)(d:In)(hd:done.length=k)(hk:k<l.length):(done++l.drop k).getD k d=l.getD k d:=by
 rw[Cf l k d hk,List.getD_eq_getElem?_getD,List.getElem?_append_right (by omega),hd,Nat.sub_self];rfl
theorem FQ(x:Src)(s:List UInt8)(n:Nat)(hn:x.l.length=n):∃ (p:Nat) (b:Bool),(b=true→x.place s=some p)∧(b=false→x.place s=none)∧(CZ x.labels s).getD 0=p∧((CZ x.labels s).isSome&&decide (p<n))=b:=by
 subst hn;refine⟨_,_,?_,?_,rfl,rfl⟩
 ·intro h;rw[Bool.and_eq_true,decide_eq_true_eq]at h;obtain⟨p,hp⟩:=Option.isSome_iff_exists.1 h.1;have:x.at s=some p:=hp;unfold Src.place;rw[this];rw[hp]at h;simp only[Option.getD_some]at h;simp[h.2,hp]
 ·intro h;unfold Src.place
  show(CZ x.labels s).filter _=none
  cases hp:CZ x.labels s with
  |none=>rfl
  |some p =>
   rw[hp]at h;simp at h;simp[h]
theorem AX.NR{w0 W:World}{N k:Nat}{x:Src}(h:AI w0 W N x k)(line err:Int) :
  AX w0 (((((W.setCell ⟨N,0,none⟩ (.slice none 0 0)).setCell ⟨N,1,none⟩ (.int .i64 0)).setCell ⟨N,2,none⟩ (.int .i64 0)).setCell ⟨N+1,0,none⟩ (.int .i64 line)).setCell ⟨N+2,0,none⟩ (.int .i64 err)).drew N line err:=by
 have h1:=AX.of h line err;generalize ((((W.setCell ⟨N,0,none⟩ (.slice none 0 0)).setCell ⟨N,1,none⟩ (.int .i64 0)).setCell ⟨N,2,none⟩ (.int .i64 0)).setCell ⟨N+1,0,none⟩ (.int .i64 line)).setCell ⟨N+2,0,none⟩ (.int .i64 err)=W1 at *;exact h1.far (Bd h1.b) (fun j hj=>rfl)
theorem KeepsFrom.QN{B N:Nat}{W W1:World}(h:KeepsFrom B W W1)(hN:N+2<B)(a b c d e:Value) :
  KeepsFrom B W (((((W1.setCell ⟨N,0,none⟩ a).setCell ⟨N,1,none⟩ b).setCell ⟨N,2,none⟩ c).setCell ⟨N+1,0,none⟩ d).setCell ⟨N+2,0,none⟩ e).drew:=by
 have s1:∀ (W:World) (i:Nat) (v:Value),KeepsFrom B W (W.setCell ⟨N,i,none⟩ v):=fun W i v=>KeepsFrom.setCell v (show N<B by omega)
 have s2:∀ (W:World) (i:Nat) (v:Value),KeepsFrom B W (W.setCell ⟨N+1,i,none⟩ v):=fun W i v=>KeepsFrom.setCell v (show N+1<B by omega)
 have s3:∀ (W:World) (i:Nat) (v:Value),KeepsFrom B W (W.setCell ⟨N+2,i,none⟩ v):=fun W i v=>KeepsFrom.setCell v (show N+2<B by omega)
 exact(((((h.trans (s1 _ _ _)).trans (s1 _ _ _)).trans (s1 _ _ _)).trans (s2 _ _ _)).trans (s3 _ _ _)).trans (KeepsFrom.drew _)
theorem Ck{W W1:World}{a:Addr}{v:Value}(hb:Below W.heap.size W W1)(h:W.cell? a=some v):W1.cell? a=some v :=
 (World.cell?_of_block (hb.block a.block (World.block_lt_of_cell? W a h))).trans h
theorem Iy{w0 W W1:World}{N D:Nat}{v0 v1 v2:Value}{x:Src}{l:List In}{a b d:Addr}{y1 y2 y3:Value}(hb:Below W.heap.size W W1)
  (h:Ai (BI w0 W N D v0 v1 v2 x l)∧W.cell? a=some y1∧W.cell? b=some y2∧W.cell? d=some y3) :
  Ai (BI w0 W1 N D v0 v1 v2 x l)∧W1.cell? a=some y1∧W1.cell? b=some y2∧W1.cell? d=some y3 :=
 ⟨⟨h.1.out.keep hb⟩,Ck hb h.2.1,Ck hb h.2.2.1,Ck hb h.2.2.2⟩
theorem QP{w0 W:World}{N:Nat}(hb:Below N w0 W){x0 x1 x2 x3 x4:Value}(c2:W.heap[N]?=some (.cells #[x0,x1,x2] 35 (0,0)))(c3:W.heap[N+1]?=some (.cells #[x3] 3 (0,0)))(c4:W.heap[N+2]?=some (.cells #[x4] 38 (0,0)))
  (v a b line err:Value):∀ W',W'=((((W.setCell ⟨N,0,none⟩ v).setCell ⟨N,1,none⟩ a).setCell ⟨N,2,none⟩ b).setCell ⟨N+1,0,none⟩ line).setCell ⟨N+2,0,none⟩ err →
  Below N w0 W'∧W'.heap[N]?=some (.cells #[v,a,b] 35 (0,0))∧W'.heap[N+1]?=some (.cells #[line] 3 (0,0))∧W'.heap[N+2]?=some (.cells #[err] 38 (0,0))∧∀ j,N+3≤j→W'.heap[j]?=W.heap[j]?:=by
 rintro W' rfl;have far:∀ {W:World} {j g i:Nat} {o:Obj} (v:Value),W.heap[j]?=some o→j≠g→(W.setCell ⟨g,i,none⟩ v).heap[j]?=some o:=fun v hj hne=>(Below.heap_setCell _ ⟨_,_,none⟩ v _ hne).trans hj
 refine⟨((((hb.setCell (Nl _) _).setCell (Nl _) _).setCell (Nl _) _).setCell (show N≤N+1 by omega) _).setCell (show N≤N+2 by omega) _,?_,?_,?_,fun j hj=>?_⟩
 ·exact far _ (far _ (Bs (Bs (Bs c2 0 _) 1 _) 2 _) (by omega)) (by omega)
 ·exact far _ (Bs (far _ (far _ (far _ c3 (by omega)) (by omega)) (by omega)) 0 _) (by omega)
 ·exact Bs (far _ (far _ (far _ (far _ c4 (by omega)) (by omega)) (by omega)) (by omega)) 0 _
 ·rw[Below.heap_setCell _ ⟨N+2,0,none⟩ _ _ (show j≠N+2 by omega),Below.heap_setCell _ ⟨N+1,0,none⟩ _ _ (show j≠N+1 by omega),Below.heap_setCell _ ⟨N,2,none⟩ _ _ (show j≠N by omega),Below.heap_setCell _ ⟨N,1,none⟩ _ _ (show j≠N by omega),Below.heap_setCell _ ⟨N,0,none⟩ _ _ (show j≠N by omega)]
theorem QO{w0 W:World}{N:Nat}(hb:Below N w0 W){x0 x1 x2 x3 x4:Value}(c2:W.heap[N]?=some (.cells #[x0,x1,x2] 35 (0,0)))(c3:W.heap[N+1]?=some (.cells #[x3] 3 (0,0)))(c4:W.heap[N+2]?=some (.cells #[x4] 38 (0,0)))
  (v a b line err:Value):∀ W',W'=(((((W.setCell ⟨N,0,none⟩ v).setCell ⟨N,1,none⟩ a).setCell ⟨N,2,none⟩ b).setCell ⟨N+1,0,none⟩ line).setCell ⟨N+2,0,none⟩ err).drew →
  Below N w0 W'∧W'.heap[N]?=some (.cells #[v,a,b] 35 (0,0))∧W'.heap[N+1]?=some (.cells #[line] 3 (0,0))∧W'.heap[N+2]?=some (.cells #[err] 38 (0,0))∧∀ j,N+3≤j→W'.heap[j]?=W.heap[j]?:=by
 intro W' hW';obtain⟨h1,h2,h3,h4,h5⟩:=QP hb c2 c3 c4 v a b line err _ rfl;generalize ((((W.setCell ⟨N,0,none⟩ v).setCell ⟨N,1,none⟩ a).setCell ⟨N,2,none⟩ b).setCell ⟨N+1,0,none⟩ line).setCell ⟨N+2,0,none⟩ err=W2 at *;subst hW';exact⟨Bd h1,h2,h3,h4,h5⟩
theorem Iz{W:World}{N g2 kk g i:Nat}{y1 y2 y3 v:Value}(hg:g<N+3)(hg2:N+8≤g2)
  (h:W.drew.cell? ⟨N+5,0,none⟩=some y1∧W.drew.cell? ⟨N+4,2,none⟩=some y2∧W.drew.cell? ⟨g2,kk,none⟩=some y3) :
  (W.setCell ⟨g,i,none⟩ v).drew.cell? ⟨N+5,0,none⟩=some y1∧(W.setCell ⟨g,i,none⟩ v).drew.cell? ⟨N+4,2,none⟩=some y2∧(W.setCell ⟨g,i,none⟩ v).drew.cell? ⟨g2,kk,none⟩=some y3 :=
 ⟨(World.cell?_setCell_far W ⟨g,i,none⟩ ⟨N+5,0,none⟩ v (show g≠N+5 by omega)).trans h.1,(World.cell?_setCell_far W ⟨g,i,none⟩ ⟨N+4,2,none⟩ v (show g≠N+4 by omega)).trans h.2.1,(World.cell?_setCell_far W ⟨g,i,none⟩ ⟨g2,kk,none⟩ v (show g≠g2 by omega)).trans h.2.2⟩
theorem NS{A B:Prop}(h:A∧B):A:=h.1
end
end Go.Proofs.YtjjpiefgdggghaaGreatDoor

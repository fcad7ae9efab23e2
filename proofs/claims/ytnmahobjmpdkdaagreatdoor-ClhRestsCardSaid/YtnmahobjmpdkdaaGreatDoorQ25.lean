/- Parts: Ref7, SpecKit, SpecStep, SpecRows. -/
import Derived.Test.YtnmahobjmpdkdaaGreatDoorQ02
import Derived.Test.YtnmahobjmpdkdaaGreatDoorQ05
import Derived.Test.YtnmahobjmpdkdaaGreatDoorQ04
import Derived.Test.YtnmahobjmpdkdaaGreatDoorQ14
import Derived.Test.YtnmahobjmpdkdaaGreatDoorQ12
import Derived.Deep.RegionHeld3
set_option linter.unusedVariables false
set_option linter.unusedSimpArgs false
set_option maxRecDepth 100000
set_option maxHeartbeats 40000000
namespace Go.Proofs.YtnmahobjmpdkdaaGreatDoor
section
open Go.RowKit Go.Proofs.YtnmahobjmpdkdaaGreatDoorW.PrintWords
theorem S8(i:In)(w:World):Calls Tryz.prog 65 #[i.v] w fun e w'=>e=.returned i.v∧Below w.heap.size w w':=by
 cases i with
 |mk op d s t u a k q =>
  unfold In.v;go_enter Tryz.func65,Tryz.ntmps65;go_wp2;refine bodyPost_ret (results_cell_row rfl _ _ (w.heap.size+1) 90 (In.cs ⟨op,d,s,t,u,a,k,q⟩) (0,0) _ rfl (by exact Df _ _ _) Tryz.underlying90 rfl (by kernel_rfl)) rfl ⟨rfl,?_⟩;apply_rules [Below.setCell,Below.alloc,Below.refl]<;>first |omega |(simp;omega) |simp
theorem N5:(Tryz.prog.info? 90).map (fun i=>(i.zero,i.size,i.bytes))=some (some (.agg In.zero.cs),8,64):=by kernel_rfl
def BM(W:World)(base:Nat)(v:Value)(xs:List In):Prop:=W.ownsRow base 90 8 v xs.length (Bu xs)
theorem BM.nil(W:World)(base:Nat):BM W base (.slice none 0 0) []:=⟨rfl,.inl ⟨rfl,rfl⟩⟩
theorem BM.mono{W:World}{base base':Nat}{v:Value}{xs:List In}(h:BM W base v xs)(hb:base'≤base):BM W base' v xs:=by
 obtain⟨h1,h2⟩:=h;refine⟨h1,?_⟩;rcases h2 with h0 |⟨g,cap,cur,e,hg,r⟩
 ·exact .inl h0
 ·exact .inr ⟨g,cap,cur,e,Nat.le_trans hb hg,r⟩
theorem BM.rd{W:World}{base:Nat}{v:Value}{xs:List In}(h:BM W base v xs):Cj W v xs.length (Bu xs):=by
 obtain⟨h1,h2⟩:=h;rcases h2 with ⟨rfl,h0⟩ |⟨g,cap,cur,rfl,hg,hh,hc,hm,hs,ht⟩
 ·rw[h0];exact .inl ⟨rfl,_,_,rfl⟩
 ·by_cases hn:0<xs.length
  ·refine .inr ⟨g,cap,rfl,hc,hn,fun j u hj=>(Bc hh j).trans ?_⟩;have hlt:j<xs.length*8:=by rw[←h1];exact(List.getElem?_eq_some_iff.1 hj).1
   rw[←ht,List.getElem?_take_of_lt hlt,Array.getElem?_toList]at hj;exact hj
  ·have h0:xs.length=0:=by omega
   rw[h0];exact .inl ⟨rfl,_,_,rfl⟩
section
variable {ops:Array Oper} {o:Oper} {a:Act} {K:Act→World→Prop} {Q:Exit→Act→World→Prop} {E:Prop} {W:World}
theorem Us(hgd:o.guard=none)(x:Operand)(ho:o.op=.buildSlice 24 1 #[(0,x)])(i:In)(hx:a.eval x=.agg i.cs)
  (h:∀ g W1,Below W.heap.size W W1→W1.heap[g]?=some (.cells i.cs 90 (0,0))→K (a.put o.dst (.slice (some ⟨g,0,none⟩) 1 1)) W1) :
  if Region.wanted o (yielded ops a.tmps)=true then Oper.wp Tryz.prog o a W K Q else E:=by
 rw[if_pos (by simp[Region.wanted,hgd])];obtain⟨i9,hi,hz0,hz1,hz2⟩:=info_parts N5;refine wp_buildSlice 24 90 1 _ ho i.cs i9 (.agg In.zero.cs) Tryz.underlying24 hi hz0 (by rw[hz1];decide) (by rw[hz1];decide) ?_ (h _ _ (Bw W _) (Bv _ _));rw[hz1];simp only[List.map_toArray,List.map_cons,List.map_nil,hx];cases i
 kernel_rfl
theorem Ut(hgd:o.guard=none)(s x:Operand)(ho:o.op=.call {callee:=.builtin .append,args:=#[s,x],argTypes:=#[24,24]})
  (base g:Nat)(y:In)(v:Value)(xs:List In)(hs:a.eval s=v)(hr:BM W base v xs)(hx:a.eval x=.slice (some ⟨g,0,none⟩) 1 1)
  (hy:W.heap[g]?=some (.cells y.cs 90 (0,0)))(hl:xs.length≤1000000)(hb:base≤W.heap.size)
  (h:∀ v' W1,BM W1 base v' (xs++[y])→W.grownBy W1 v.ownBlock→(v'.ownBlock=v.ownBlock∨v'.ownBlock=some W.heap.size)→K (a.put o.dst v') W1) :
  if Region.wanted o (yielded ops a.tmps)=true then Oper.wp Tryz.prog o a W K Q else E:=by
 obtain⟨i9,hi,hz0,hz1,hz2⟩:=info_parts N5;refine FO hgd s x 24 ho base 90 i9 (.agg In.zero.cs) 8 64 Tryz.underlying24 hi hz0 hz1 hz2 rfl (by decide) v xs.length (Bu xs) hs hr g y.cs (0,0) hx hy rfl ?_ hl (by decide) hb ?_
 ·intro u hu;have:u∈y.cs.toList:=hu;simp[In.cs]at this;rcases this with rfl |rfl |rfl |rfl |rfl |rfl |rfl |rfl<;>rfl
 ·intro v' W1 h1 h2 h4;refine h v' W1 ?_ h2 h4;unfold BM;rw[Gh,List.length_append];exact h1
end
structure WK (w W:World) (N:Nat) (l u:Int) (v:Value) (xs:List In):Prop where
 b:Below N w W
 c1:W.heap[N+1]?=some (.cells #[.slice none 0 0,.int .i64 0,.int .i64 0] 26 (0,0))
 c2:W.heap[N+2]?=some (.cells #[v,.int .i64 l,.int .i64 u] 26 (0,0))
 r:BM W N v xs
section
variable {w W W1:World} {N:Nat} {l u:Int} {v v':Value} {xs:List In} {y:In}
theorem WK.keep(h:WK w W N l u v xs)(hb:Below W.heap.size W W1):WK w W1 N l u v xs :=
 ⟨h.b.trans (hb.mono (by have:=Bl h.c1;omega)),Bk hb h.c1,Bk hb h.c2,Om h.r (fun k hk=>hb.block k (Ol h.r k hk))⟩
theorem WK.app(h:WK w W N l u v xs)(hr:BM W1 N v' (xs++[y]))(hg:W.grownBy W1 v.ownBlock)(hz:N≤W.heap.size) :
  Below N w W1∧W1.heap[N+1]?=some (.cells #[.slice none 0 0,.int .i64 0,.int .i64 0] 26 (0,0))∧W1.heap[N+2]?=some (.cells #[v,.int .i64 l,.int .i64 u] 26 (0,0)) ∧
   WK w (W1.setCell ⟨N+2,0,none⟩ v') N l u v' (xs++[y]):=by
 have hb:=h.b.grown hg hz (fun k hk=>Ob h.r k hk);have c1:=Bg h.c1 hg (Oa h.r h.c1 (by decide));have c2:=Bg h.c2 hg (Oa h.r h.c2 (by decide));exact⟨hb,c1,c2,hb.setCell (show N≤N+2 by omega) _,(Below.heap_setCell W1 ⟨N+2,0,none⟩ v' _ (show N+1≠N+2 by omega)).trans c1,Bs c2 0 _,Rs hr c2 (by decide) 0 v'⟩
end
def ZA(N b:Nat)(v:Value)(i:In)(W:World):Prop :=
 W.cell? ⟨N+2,0,none⟩=some v∧W.cell? ⟨b,0,none⟩=some (.int .i64 i.op)∧W.cell? ⟨b,1,none⟩=some (.int .i64 i.d)∧W.cell? ⟨b,2,none⟩=some (.int .i64 i.s)∧W.cell? ⟨b,3,none⟩=some (.int .i64 i.t) ∧
 W.cell? ⟨b,4,none⟩=some (.int .i64 i.u)∧W.cell? ⟨b,5,none⟩=some (.int .i64 i.a)∧W.cell? ⟨b,6,none⟩=some (.int .u32 i.k)∧W.cell? ⟨b,7,none⟩=some (.int .i64 i.q)
theorem VW{W:World}{N b:Nat}{v:Value}{i:In}{l u:Int}(hc:W.heap[N+2]?=some (.cells #[v,.int .i64 l,.int .i64 u] 26 (0,0)))(he:W.heap[b]?=some (.cells i.cs 104 (0,0))):ZA N b v i W :=
 ⟨(Bc hc 0).trans rfl,(Bc he 0).trans rfl,(Bc he 1).trans rfl,(Bc he 2).trans rfl,(Bc he 3).trans rfl,(Bc he 4).trans rfl,(Bc he 5).trans rfl,(Bc he 6).trans rfl,(Bc he 7).trans rfl⟩
theorem Qp(va:Value)(l u:Int)(xs:List In)(w:World)(ha:Cj w va xs.length (Bu xs))(hn:xs.length≤1000) :
  Calls Tryz.prog 44 #[.agg #[va,.int .i64 l,.int .i64 u]] w fun e W=>∃ v,e=.returned (.agg #[v,.int .i64 l,.int .i64 u])∧BM W w.heap.size v xs∧Below w.heap.size w W:=by
 obtain⟨A,c,rfl⟩:=ha.slice;obtain⟨n,hl⟩:∃ n,xs.length=n:=⟨_,rfl⟩
 rw[hl]at ha hn ⊢;have h0:WK w (((w.alloc (.cells #[.slice A n c,.int .i64 l,.int .i64 u] 36)).alloc (.cells #[.slice none 0 0,.int .i64 0,.int .i64 0] 26)).alloc (.cells #[.slice none 0 0,.int .i64 l,.int .i64 u] 26)) w.heap.size l u (.slice none 0 0) []:=by
  obtain⟨w1,e1⟩:∃ x,w.alloc (.cells #[.slice A n c,.int .i64 l,.int .i64 u] 36)=x:=⟨_,rfl⟩
  have z1:w1.heap.size=w.heap.size+1:=by rw[←e1];simp
  have k1:Below w.heap.size w w1:=e1▸Bw w _;rw[e1];obtain⟨w2,e2⟩:∃ x,w1.alloc (.cells #[.slice none 0 0,.int .i64 0,.int .i64 0] 26)=x:=⟨_,rfl⟩
  have z2:w2.heap.size=w.heap.size+2:=by rw[←e2];simp[z1]
  have k2:Below w1.heap.size w1 w2:=e2▸Bw w1 _;have n1:w2.heap[w.heap.size+1]?=_:=e2▸z1▸Bv w1 _;rw[e2];have n2:(w2.alloc (.cells #[.slice none 0 0,.int .i64 l,.int .i64 u] 26)).heap[w.heap.size+2]?=_:=z2▸Bv w2 _;exact⟨(k1.trans (k2.mono (by omega))).trans ((Bw w2 _).mono (by omega)),AJ n1 _,n2,BM.nil _ _⟩
 replace h0:=Az h0;replace ha:=Az ha;replace hl:=Az hl;go_enter Tryz.func44,Tryz.ntmps44;go_wp2_with fail
 simp only[Nat.add_assoc,Nat.reduceAdd];go_loopw [14] (fun v14 wr=>∃ (k:Nat) (v:Value),v14=.int .i64 k∧k≤n∧Af (WK w wr w.heap.size l u v (xs.take k))) (fun v14 _=>n-(intOf v14).toNat)
 case atStart=>exact⟨0,.slice none 0 0,rfl,Nat.zero_le _,⟨by simpa using h0.out⟩⟩
 case round =>
  obtain⟨k,v,rfl,hk,hI⟩:=hrel;by_cases hlt:k<n
  ·obtain⟨ga,c',hva,hca⟩:=(ha.out.keep hI.out.b).cells (by omega);obtain⟨rfl,rfl⟩:A=some ⟨ga,0,none⟩∧c=c':=by injection hva with h1 h2 h3;exact⟨h1,h3⟩
   have hkx:k<xs.length:=by rw[hl.out];exact hlt
   have htake:=Dw xs k In.zero hkx;have hsn:xs.take (k+1)=xs.take k++[xs.getD k In.zero]:=by
    rw[List.take_add_one,List.getElem?_eq_getElem hkx];simp[List.getD_eq_getElem?_getD,List.getElem?_eq_getElem hkx]
   obtain⟨⟨op,dd,s,t,uu,a,kk,q⟩,hi⟩:∃ i,xs.getD k In.zero=i:=⟨_,rfl⟩
   rw[hi]at hsn;obtain⟨a0,a1,a2,a3,a4,a5,a6,a7⟩:=Fx hca hkx hi;obtain⟨V,m,cv,rfl⟩:=AK hI.out.r;have hk0:(0:Int)≤(k:Int):=by omega
   have hk1:(k:Int)<(n:Int):=by omega
   have hkw:IntKind.i64.wrap ((k:Int)+1)=(k:Int)+1:=by rw[IntKind.wrap_i64];omega
   have R6:=fun W=>S8 ⟨op,dd,s,t,uu,a,kk,q⟩ W
   dsimp only[In.v]at R6;replace R6:=Az R6;have hlk:(xs.take k).length≤1000000:=by rw[List.length_take];omega
   replace hlk:=Az hlk;replace hsn:=Az hsn;have hE:=Az (Bv wr (.cells (In.cs ⟨op,dd,s,t,uu,a,kk,q⟩) 104));have hI2:=Az (hI.out.keep (Bw wr (.cells (In.cs ⟨op,dd,s,t,uu,a,kk,q⟩) 104)));obtain⟨b,hb⟩:∃ b,wr.heap.size=b:=⟨_,rfl⟩
   obtain⟨w5,hw5⟩:∃ y,wr.alloc (.cells (In.cs ⟨op,dd,s,t,uu,a,kk,q⟩) 104)=y:=⟨_,rfl⟩
   rw[hw5,hb]at hE;rw[hw5]at hI2;simp only[In.cs]at hw5;clear hva hca hi htake hkx;go_upto_region 5 with fail
   try rw[hw5]
   try rw[hb]
   clear hw5 hb a0 a1 a2 a3 a4 a5 a6 a7 hI;have hd0:Below w5.heap.size w5 w5.drew:=Bd (Below.refl _ _);replace hI2:=hI2.out.keep hd0;replace hE:=Bk hd0 hE.out;have hS:=VW (b:=b) hI2.c2 hE;refine Ay [7] (S:=ZA w.heap.size b (.slice V m cv) ⟨op,dd,s,t,uu,a,kk,q⟩) (by kernel_rfl) hS (fun hS0=>?_);clear hS hd0;generalize w5.drew=w5 at *;refine tY 0 (fun _=>by assumption) ?_;refine tL 1 (by assumption) ?_;refine tL 2 (by assumption) ?_;refine Ab (rs:=[3]) (by kernel_rfl) (by simp) ?_;refine Aa.cons (o:=?oq3) ?hoq3 (fun K hK=>?_) Aa.nil;case hoq3=>refine An ?_;rfl
   go_simp
   go_at_call 65
   refine(R6.out _).mono ?_;rintro e w6 ⟨rfl,hb6⟩;replace hI2:=hI2.keep hb6;replace hE:=Bk hb6 hE;clear hS0 R6;go_wp2_with fail
   refine hK.out _ _ (fun _=>VW hI2.c2 hE) (fun hS6=>?_);replace hS6:=hS6 rfl;try simp only[Act.put,Sa,Sb,Sc]
   refine Ab (rs:=[4]) (by kernel_rfl) (by simp) ?_;refine Aa.cons (An rfl) (fun K hK=>?_) Aa.nil;refine Us rfl (.tmp 21) rfl ⟨op,dd,s,t,uu,a,kk,q⟩ rfl (fun g22 w7 hb7 hy=>?_);replace hI2:=hI2.keep hb7;replace hE:=Bk hb7 hE;refine hK.out _ _ (fun _=>VW hI2.c2 hE) (fun hS7=>?_);replace hS7:=hS7 rfl;try simp only[Act.put,Sa,Sb,Sc]
   refine Ab (rs:=[5]) (by kernel_rfl) (by simp) ?_;refine Aa.cons (An rfl) (fun K hK=>?_) Aa.nil;refine Ut rfl (.tmp 19) (.tmp 22) rfl w.heap.size g22 ⟨op,dd,s,t,uu,a,kk,q⟩ _ (xs.take k) rfl hI2.r rfl hy hlk.out (by have:=Bl hI2.c1;omega) (fun v' w8 hr hg _=>?_);obtain⟨q1,q2,q3,hI3⟩:=hI2.app hr hg (by have:=Bl hI2.c1;omega);obtain⟨V',m',cv',rfl⟩:=AK hr;refine hK.out _ _ (fun _=>VW q3 (Bg hE hg (Oa hI2.r hE (by decide)))) (fun hS8=>?_);replace hS8:=hS8 rfl;try simp only[Act.put,Sa,Sb,Sc]
   refine tY 6 (fun _=>by assumption) ?_;have c0:w8.cell? ⟨w.heap.size+2,0,none⟩=some (.slice V m cv):=(Bc q3 0).trans rfl;have f0:=Bf q3 0;have z0:w.heap.size+2<w8.heap.size:=Bl q3;replace hI3:=Az hI3;clear hS6 hS7 hS8 q1 q2 q3 hr hg hI2 hE;refine Ab (rs:=[7]) (by kernel_rfl) (by simp) ?_;refine Aa.cons (An rfl) (fun K hK=>?_) Aa.nil;go_simp
   go_wp2_with fail
   refine hK.out _ _ (fun h=>by cases h) (fun _=>?_);try simp only[Act.put,Sa,Sb,Sc]
   refine AE (by kernel_rfl) ?_ _;go_wp2_with fail
   go_roundw
   case rel=>exact⟨k+1,_,by go_num,hlt,⟨by rw[hsn.out];exact hI3.out⟩⟩
   case measure=>simp[intOf];omega
  ·obtain rfl:k=n:=by omega
   have hge:¬(k:Int)<(k:Int):=by omega
   have e0:xs.take k=xs:=by rw[←hl.out];exact List.take_length
   rw[e0]at hI;obtain⟨V,m,cv,rfl⟩:=AK hI.out.r;have r0:wr.cell? ⟨w.heap.size+2,0,none⟩=some (.slice V m cv):=(Bc hI.out.c2 0).trans rfl;have r1:wr.cell? ⟨w.heap.size+2,1,none⟩=some (.int .i64 l):=(Bc hI.out.c2 1).trans rfl;have r2:wr.cell? ⟨w.heap.size+2,2,none⟩=some (.int .i64 u):=(Bc hI.out.c2 2).trans rfl;have d0:wr.cell? ⟨w.heap.size+1,0,none⟩=some (.slice none 0 0):=(Bc hI.out.c1 0).trans rfl;have d1:wr.cell? ⟨w.heap.size+1,1,none⟩=some (.int .i64 0):=(Bc hI.out.c1 1).trans rfl;have d2:wr.cell? ⟨w.heap.size+1,2,none⟩=some (.int .i64 0):=(Bc hI.out.c1 2).trans rfl;have f0:=Bf hI.out.c1 0;have f1:=Bf hI.out.c1 1;have f2:=Bf hI.out.c1 2;have z0:w.heap.size+1<wr.heap.size:=Bl hI.out.c1;have fin:∀ W',W'=((wr.setCell ⟨w.heap.size+1,0,none⟩ (.slice V m cv)).setCell ⟨w.heap.size+1,1,none⟩ (.int .i64 l)).setCell ⟨w.heap.size+1,2,none⟩ (.int .i64 u) →
     W'.heap[w.heap.size+1]?=some (.cells #[.slice V m cv,.int .i64 l,.int .i64 u] 26 (0,0))∧BM W' w.heap.size (.slice V m cv) xs∧Below w.heap.size w W':=by
    rintro W' rfl;have h1:=Bs hI.out.c1 0 (.slice V m cv);have r1:=Rs hI.out.r hI.out.c1 (by decide) 0 (.slice V m cv);have b1:=hI.out.b.setCell (show w.heap.size≤w.heap.size+1 by omega) (p:=⟨w.heap.size+1,0,none⟩) (.slice V m cv);have h2:=Bs h1 1 (.int .i64 l);have r2:=Rs r1 h1 (by decide) 1 (.int .i64 l);have b2:=b1.setCell (show w.heap.size≤w.heap.size+1 by omega) (p:=⟨w.heap.size+1,1,none⟩) (.int .i64 l);have r3:=Rs r2 h2 (by decide) 2 (.int .i64 u);exact⟨Bs h2 2 (.int .i64 u),r3,b2.setCell (show w.heap.size≤w.heap.size+1 by omega) (p:=⟨w.heap.size+1,2,none⟩) (.int .i64 u)⟩
   replace fin:=Az fin;clear hI e0;go_wp2;obtain⟨g1,g2,g3⟩:=fin.out _ rfl;refine bodyPost_ret (results_cell_row rfl _ _ (w.heap.size+1) 26 #[.slice V m cv,.int .i64 l,.int .i64 u] (0,0) _ rfl g1 Tryz.underlying26 rfl (by kernel_rfl)) rfl ⟨_,rfl,g2,g3⟩
theorem OZ{W W1:World}{g:Nat}{x0 x1 x2 x3 x4 x5 x6:Value}(hb:Below W.heap.size W W1)
  (h:W.cell? ⟨g,0,none⟩=some x0∧W.cell? ⟨g,1,none⟩=some x1∧W.cell? ⟨g,2,none⟩=some x2∧W.cell? ⟨g,3,none⟩=some x3∧W.cell? ⟨g,4,none⟩=some x4∧W.cell? ⟨g,5,none⟩=some x5∧W.cell? ⟨g,6,none⟩=some x6) :
  W1.cell? ⟨g,0,none⟩=some x0∧W1.cell? ⟨g,1,none⟩=some x1∧W1.cell? ⟨g,2,none⟩=some x2∧W1.cell? ⟨g,3,none⟩=some x3∧W1.cell? ⟨g,4,none⟩=some x4∧W1.cell? ⟨g,5,none⟩=some x5∧W1.cell? ⟨g,6,none⟩=some x6 :=
 ⟨Ck hb h.1,Ck hb h.2.1,Ck hb h.2.2.1,Ck hb h.2.2.2.1,Ck hb h.2.2.2.2.1,Ck hb h.2.2.2.2.2.1,Ck hb h.2.2.2.2.2.2⟩
theorem Ci(va:Value)(l u each:Int)(B C D:Option Addr)(n1 n2 n3 k1 k2 k3:Nat)(xs:List In)(w:World)(ha:Cj w va xs.length (Bu xs))(hn:xs.length≤1000) :
  Calls Tryz.prog 22 #[.agg #[va,.int .i64 l,.int .i64 u,.slice B n1 k1,.slice C n2 k2,.int .i64 each,.slice D n3 k3]] w fun e W=>∃ v,e=.returned (.agg #[v,.int .i64 l,.int .i64 u,.slice B n1 k1,.slice C n2 k2,.int .i64 each,.slice D n3 k3])∧BM W w.heap.size v xs∧Below w.heap.size w W:=by
 have C7:=Az (fun(W:World) (hb:Below w.heap.size w W)=>Qp va l u xs W (ha.keep hb) hn);obtain⟨A,c,rfl⟩:=ha.slice;clear ha hn;generalize xs.length=n at *;have hB0:=Az (((Below.refl w.heap.size w).alloc (Nl _) (.cells #[.slice A n c,.int .i64 l,.int .i64 u,.slice B n1 k1,.slice C n2 k2,.int .i64 each,.slice D n3 k3] 38)).alloc (by simp) (.cells #[.slice none 0 0,.int .i64 0,.int .i64 0,.slice none 0 0,.slice none 0 0,.int .i64 0,.slice none 0 0] 30));have b1:=AJ (Bv w (.cells #[.slice A n c,.int .i64 l,.int .i64 u,.slice B n1 k1,.slice C n2 k2,.int .i64 each,.slice D n3 k3] 38)) (.cells #[.slice none 0 0,.int .i64 0,.int .i64 0,.slice none 0 0,.slice none 0 0,.int .i64 0,.slice none 0 0] 30);have b2:=Az (Df w (.cells #[.slice A n c,.int .i64 l,.int .i64 u,.slice B n1 k1,.slice C n2 k2,.int .i64 each,.slice D n3 k3] 38) (.cells #[.slice none 0 0,.int .i64 0,.int .i64 0,.slice none 0 0,.slice none 0 0,.int .i64 0,.slice none 0 0] 30));go_enter Tryz.func22,Tryz.ntmps22;obtain⟨w2,hw2⟩:∃ y,(w.alloc (.cells #[.slice A n c,.int .i64 l,.int .i64 u,.slice B n1 k1,.slice C n2 k2,.int .i64 each,.slice D n3 k3] 38)).alloc (.cells #[.slice none 0 0,.int .i64 0,.int .i64 0,.slice none 0 0,.slice none 0 0,.int .i64 0,.slice none 0 0] 30)=y:=⟨_,rfl⟩
 rw[hw2]at hB0 b1 b2;go_upto_region 1 with fail
 try rw[hw2]
 clear hw2;have hS:w2.drew.cell? ⟨w.heap.size,0,none⟩=some (.slice A n c)∧w2.drew.cell? ⟨w.heap.size,1,none⟩=some (.int .i64 l)∧w2.drew.cell? ⟨w.heap.size,2,none⟩=some (.int .i64 u)∧w2.drew.cell? ⟨w.heap.size,3,none⟩=some (.slice B n1 k1)∧w2.drew.cell? ⟨w.heap.size,4,none⟩=some (.slice C n2 k2)∧w2.drew.cell? ⟨w.heap.size,5,none⟩=some (.int .i64 each)∧w2.drew.cell? ⟨w.heap.size,6,none⟩=some (.slice D n3 k3) :=
  ⟨(Bc b1 0).trans rfl,(Bc b1 1).trans rfl,(Bc b1 2).trans rfl,(Bc b1 3).trans rfl,(Bc b1 4).trans rfl,(Bc b1 5).trans rfl,(Bc b1 6).trans rfl⟩
 refine Ay [12] (S:=fun W=>W.cell? ⟨w.heap.size,0,none⟩=some (.slice A n c)∧W.cell? ⟨w.heap.size,1,none⟩=some (.int .i64 l)∧W.cell? ⟨w.heap.size,2,none⟩=some (.int .i64 u)∧W.cell? ⟨w.heap.size,3,none⟩=some (.slice B n1 k1)∧W.cell? ⟨w.heap.size,4,none⟩=some (.slice C n2 k2)∧W.cell? ⟨w.heap.size,5,none⟩=some (.int .i64 each)∧W.cell? ⟨w.heap.size,6,none⟩=some (.slice D n3 k3)) (by kernel_rfl) hS (fun hS0=>?_);replace hB0:=Az (hB0.out.trans ((Bd (Below.refl _ w2)).mono hB0.out.size));replace b2:=Az (Be b2.out);clear hS b1;generalize w2.drew=w2 at *;refine tY 0 (fun _=>by assumption) ?_;refine tL 1 (by assumption) ?_;refine tY 3 (fun _=>by assumption) ?_;refine tL 4 (by assumption) ?_;refine tY 5 (fun _=>by assumption) ?_;refine tL 6 (by assumption) ?_;refine tY 7 (fun _=>by assumption) ?_;refine tL 8 (by assumption) ?_;refine tY 9 (fun _=>by assumption) ?_;refine tL 10 (by assumption) ?_;refine Ab (rs:=[2]) (by kernel_rfl) (by simp) ?_;refine Aa.cons (o:=?oq2) ?hoq2 (fun K hK=>?_) Aa.nil;case hoq2=>refine An ?_;rfl
 go_simp
 go_at_call 44
 refine(C7.out _ hB0.out).mono ?_;rintro e w3 ⟨v,rfl,hr,hb⟩;obtain⟨V,m,kv,rfl⟩:=AK hr;have hS3:=OZ hb hS0;replace hr:=Az (show BM w3 w2.heap.size _ xs∧w.heap.size≤w2.heap.size from⟨hr,hB0.out.size⟩);replace hB0:=Az (hB0.out.trans (hb.mono hB0.out.size));replace b2:=Az (Bk hb b2.out);clear hS0 hb C7;go_wp2_with fail
 refine hK.out _ _ (fun _=>hS3) (fun _=>?_);try simp only[Act.put,Sa,Sb,Sc]
 refine tY 11 (fun _=>by assumption) ?_;have c0:w3.cell? ⟨w.heap.size+1,0,none⟩=some (.slice none 0 0):=(Bc b2.out 0).trans rfl;have c1:w3.cell? ⟨w.heap.size+1,1,none⟩=some (.int .i64 0):=(Bc b2.out 1).trans rfl;have c2:w3.cell? ⟨w.heap.size+1,2,none⟩=some (.int .i64 0):=(Bc b2.out 2).trans rfl;have c3:w3.cell? ⟨w.heap.size+1,3,none⟩=some (.slice none 0 0):=(Bc b2.out 3).trans rfl;have c4:w3.cell? ⟨w.heap.size+1,4,none⟩=some (.slice none 0 0):=(Bc b2.out 4).trans rfl;have c5:w3.cell? ⟨w.heap.size+1,5,none⟩=some (.int .i64 0):=(Bc b2.out 5).trans rfl;have c6:w3.cell? ⟨w.heap.size+1,6,none⟩=some (.slice none 0 0):=(Bc b2.out 6).trans rfl;have f0:=Bf b2.out 0;have f1:=Bf b2.out 1;have f2:=Bf b2.out 2;have f3:=Bf b2.out 3;have f4:=Bf b2.out 4;have f5:=Bf b2.out 5;have f6:=Bf b2.out 6;have z0:w.heap.size+1<w3.heap.size:=Bl b2.out;have fin:∀ W',W'=((((((w3.setCell ⟨w.heap.size+1,0,none⟩ (.slice V m kv)).setCell ⟨w.heap.size+1,1,none⟩ (.int .i64 l)).setCell ⟨w.heap.size+1,2,none⟩ (.int .i64 u)).setCell ⟨w.heap.size+1,3,none⟩ (.slice B n1 k1)).setCell ⟨w.heap.size+1,4,none⟩ (.slice C n2 k2)).setCell ⟨w.heap.size+1,5,none⟩ (.int .i64 each)).setCell ⟨w.heap.size+1,6,none⟩ (.slice D n3 k3) →
   W'.heap[w.heap.size+1]?=some (.cells #[.slice V m kv,.int .i64 l,.int .i64 u,.slice B n1 k1,.slice C n2 k2,.int .i64 each,.slice D n3 k3] 30 (0,0))∧BM W' w.heap.size (.slice V m kv) xs∧Below w.heap.size w W':=by
  rintro W' rfl;have sb:∀ (W:World) (i:Nat) (x:Value),Below w.heap.size w W→Below w.heap.size w (W.setCell ⟨w.heap.size+1,i,none⟩ x):=fun W i x h=>h.setCell (show w.heap.size≤w.heap.size+1 by omega) x
  have r0:BM w3 w.heap.size (.slice V m kv) xs:=hr.out.1.mono hr.out.2;have h0:=b2.out;have h1:=Bs h0 0 (.slice V m kv);have h2:=Bs h1 1 (.int .i64 l);have h3:=Bs h2 2 (.int .i64 u);have h4:=Bs h3 3 (.slice B n1 k1);have h5:=Bs h4 4 (.slice C n2 k2);have h6:=Bs h5 5 (.int .i64 each);exact⟨Bs h6 6 (.slice D n3 k3),Rs (Rs (Rs (Rs (Rs (Rs (Rs r0 h0 (by decide) 0 _) h1 (by decide) 1 _) h2 (by decide) 2 _) h3 (by decide) 3 _) h4 (by decide) 4 _) h5 (by decide) 5 _) h6 (by decide) 6 _,
   sb _ _ _ (sb _ _ _ (sb _ _ _ (sb _ _ _ (sb _ _ _ (sb _ _ _ (sb _ _ _ hB0.out))))))⟩
 replace fin:=Az fin;clear hB0 b2 hr hS3;refine Ab (rs:=[12]) (by kernel_rfl) (by simp) ?_;refine Aa.cons (An rfl) (fun K hK=>?_) Aa.nil;go_simp
 go_wp2_with fail
 refine hK.out _ _ (fun h=>by cases h) (fun _=>?_);try simp only[Act.put,Sa,Sb,Sc]
 refine AE (by kernel_rfl) ?_ _;go_wp2;obtain⟨g1,g2,g3⟩:=fin.out _ rfl;refine bodyPost_ret (results_cell_row rfl _ _ (w.heap.size+1) 30 #[.slice V m kv,.int .i64 l,.int .i64 u,.slice B n1 k1,.slice C n2 k2,.int .i64 each,.slice D n3 k3] (0,0) _ rfl g1 Tryz.underlying30 rfl (by kernel_rfl)) rfl ⟨_,rfl,g2,g3⟩
def MS(w:World)(T:List UInt8)(rn:Nat)(e:Ending)(W:World):Prop :=
 ∃ (va:Value) (B C D:Option Addr) (n1 n2 k1 k2 k3:Nat) (each:Int),e=.returned (.tuple #[.agg #[va,.int .i64 (BE T).1.lock,.int .i64 (BE T).1.unlock,.slice B n1 k1,.slice C n2 k2,.int .i64 each,.slice D rn k3],.int .i64 0]) ∧
  C8 W w.heap.size va (BE T).1.l∧Below w.heap.size w W
def GH(w:World)(e:Ending)(W:World):Prop :=
 e=.returned (.tuple #[.agg #[.slice none 0 0,.int .i64 0,.int .i64 0,.slice none 0 0,.slice none 0 0,.int .i64 0,.slice none 0 0],.int .i64 5])∧Below w.heap.size w W
theorem Oj:(Tryz.prog.info? 22).map (fun i=>(i.zero,i.size,i.bytes))=some (some (.int .u32 0),1,4):=by kernel_rfl
theorem HG(k:Nat)(hk:k≤1000000):∃ cs:Array Value,cs.size=k∧(∀ j,j<k→cs[j]?=some (.int .u32 0)) ∧
  ∀ W,(Instr.makeSlice 28 (.int .i64 (k:Int)) (.int .i64 (k:Int))).run Tryz.prog W=.ok (.slice (some ⟨W.heap.size,0,none⟩) k k) (W.alloc (.cells cs 22)):=by
 obtain⟨i9,hi,hz0,hz1,hz2⟩:=info_parts Oj;refine⟨madeCells (Value.int .u32 0).cells (k*1),by rw[size_madeCells,Nat.mul_one],fun j hj=>?_,fun W=>?_⟩
 ·simp[madeCells,Value.cells,hj,Nat.mod_one]
 ·have:=run_makeSlice (P:=Tryz.prog) W 28 22 i9 (.int .u32 0) Tryz.underlying28 hi hz0 .i64 .i64 (k:Int) (k:Int) (by omega) (Int.le_refl _) (by rw[hz1];simp;omega) (by rw[hz2];omega) (by omega);rw[hz1]at this
  simpa using this
structure SpB (w W:World) (N p:Nat) (B C D:Option Addr) (n1 n2 n3 k1 k2 k3:Nat) (each:Int):Prop where
 b:Below N w W
 c:W.heap[N]?=some (.cells #[.slice none 0 0,.int .i64 0,.int .i64 0,.slice none 0 0,.slice none 0 0,.int .i64 0,.slice none 0 0] 38 (0,0))
 q:W.heap[p]?=some (.cells #[.slice none 0 0,.int .i64 0,.int .i64 0,.slice B n1 k1,.slice C n2 k2,.int .i64 each,.slice D n3 k3] 38 (0,0))
 ne:N<p
theorem C8.mono{W:World}{base base':Nat}{v:Value}{xs:List In}(h:C8 W base v xs)(hb:base'≤base):C8 W base' v xs:=by
 obtain⟨h1,h2⟩:=h;refine⟨h1,?_⟩;rcases h2 with h0 |⟨g,cap,cur,e,hg,r⟩
 ·exact .inl h0
 ·exact .inr ⟨g,cap,cur,e,Nat.le_trans hb hg,r⟩
theorem Iq{w W:World}{N:Nat}(hb:Below N w W)(h:W.heap[N]?=some (.cells #[.slice none 0 0,.int .i64 0,.int .i64 0,.slice none 0 0,.slice none 0 0,.int .i64 0,.slice none 0 0] 38 (0,0))):∀ W',
  W'=((((((W.setCell ⟨N,0,none⟩ (.slice none 0 0)).setCell ⟨N,1,none⟩ (.int .i64 0)).setCell ⟨N,2,none⟩ (.int .i64 0)).setCell ⟨N,3,none⟩ (.slice none 0 0)).setCell ⟨N,4,none⟩ (.slice none 0 0)).setCell ⟨N,5,none⟩ (.int .i64 0)).setCell ⟨N,6,none⟩ (.slice none 0 0) →
  W'.heap[N]?=some (.cells #[.slice none 0 0,.int .i64 0,.int .i64 0,.slice none 0 0,.slice none 0 0,.int .i64 0,.slice none 0 0] 38 (0,0))∧Below N w W':=by
 rintro W' rfl;have sb:∀ (W:World) (i:Nat) (x:Value),Below N w W→Below N w (W.setCell ⟨N,i,none⟩ x):=fun W i x h=>h.setCell (Nl _) x
 exact⟨Bs (Bs (Bs (Bs (Bs (Bs (Bs h 0 _) 1 _) 2 _) 3 _) 4 _) 5 _) 6 _,sb _ _ _ (sb _ _ _ (sb _ _ _ (sb _ _ _ (sb _ _ _ (sb _ _ _ (sb _ _ _ hb))))))⟩
section
variable {w W W1:World} {N p:Nat} {B C D:Option Addr} {n1 n2 n3 k1 k2 k3:Nat} {each:Int}
theorem SpB.keep(h:SpB w W N p B C D n1 n2 n3 k1 k2 k3 each)(hb:Below W.heap.size W W1):SpB w W1 N p B C D n1 n2 n3 k1 k2 k3 each :=
 ⟨h.b.trans (hb.mono (Nat.le_of_lt (Bl h.c))),Bk hb h.c,Bk hb h.q,h.ne⟩
theorem SpB.fin(h:SpB w W N p B C D n1 n2 n3 k1 k2 k3 each){va:Value}{xs:List In}(l u:Int)(hr:C8 W N va xs):∀ W',
  W'=(((((((((W.setCell ⟨p,0,none⟩ va).setCell ⟨p,1,none⟩ (.int .i64 l)).setCell ⟨p,2,none⟩ (.int .i64 u)).setCell ⟨N,0,none⟩ va).setCell ⟨N,1,none⟩ (.int .i64 l)).setCell ⟨N,2,none⟩ (.int .i64 u)).setCell ⟨N,3,none⟩ (.slice B n1 k1)).setCell ⟨N,4,none⟩ (.slice C n2 k2)).setCell ⟨N,5,none⟩ (.int .i64 each)).setCell ⟨N,6,none⟩ (.slice D n3 k3) →
  W'.heap[N]?=some (.cells #[va,.int .i64 l,.int .i64 u,.slice B n1 k1,.slice C n2 k2,.int .i64 each,.slice D n3 k3] 38 (0,0))∧C8 W' N va xs∧Below N w W':=by
 rintro W' rfl;have hne:=h.ne;have sb:∀ (W:World) (g i:Nat) (x:Value),N≤g→Below N w W→Below N w (W.setCell ⟨g,i,none⟩ x):=fun W g i x hg h=>h.setCell (show N≤g from hg) x
 have far:∀ {W:World} {i:Nat} {o:Obj} (v:Value),W.heap[N]?=some o→(W.setCell ⟨p,i,none⟩ v).heap[N]?=some o:=fun v hj=>(Below.heap_setCell _ ⟨_,_,none⟩ v _ (show N≠p by omega)).trans hj
 have p0:=h.q;have p1:=Bs p0 0 va;have p2:=Bs p1 1 (.int .i64 l);have n0:=far (i:=2) (.int .i64 u) (far (i:=1) (.int .i64 l) (far (i:=0) va h.c));have m1:=Bs n0 0 va;have m2:=Bs m1 1 (.int .i64 l);have m3:=Bs m2 2 (.int .i64 u);have m4:=Bs m3 3 (.slice B n1 k1);have m5:=Bs m4 4 (.slice C n2 k2);have m6:=Bs m5 5 (.int .i64 each);have r3:=Rs (Rs (Rs hr p0 (by decide) 0 va) p1 (by decide) 1 (.int .i64 l)) p2 (by decide) 2 (.int .i64 u);have r6:=Rs (Rs (Rs r3 n0 (by decide) 0 va) m1 (by decide) 1 (.int .i64 l)) m2 (by decide) 2 (.int .i64 u);have b3:=sb _ p 2 (.int .i64 u) (by omega) (sb _ p 1 (.int .i64 l) (by omega) (sb _ p 0 va (by omega) h.b));have b6:=sb _ N 2 (.int .i64 u) (by omega) (sb _ N 1 (.int .i64 l) (by omega) (sb _ N 0 va (by omega) b3));exact⟨Bs m6 6 (.slice D n3 k3),Rs (Rs (Rs (Rs r6 m3 (by decide) 3 _) m4 (by decide) 4 _) m5 (by decide) 5 _) m6 (by decide) 6 _,
  sb _ N 6 _ (by omega) (sb _ N 5 _ (by omega) (sb _ N 4 _ (by omega) (sb _ N 3 _ (by omega) b6)))⟩
end

section
variable {ops:Array Oper} {o:Oper} {a:Act} {K:Act→World→Prop} {Q:Exit→Act→World→Prop} {E:Prop} {W:World}
theorem OK(hgd:o.guard=none)(ho:o.op=.alloc 38)
  (h:∀ g W1,Below W.heap.size W W1→W.heap.size≤g→W1.heap[g]?=some (.cells #[.slice none 0 0,.int .i64 0,.int .i64 0,.slice none 0 0,.slice none 0 0,.int .i64 0,.slice none 0 0] 38 (0,0))→K (a.put o.dst (.pointer (some ⟨g,0,none⟩))) W1) :
  if Region.wanted o (yielded ops a.tmps)=true then Oper.wp Tryz.prog o a W K Q else E:=by
 rw[if_pos (by simp[Region.wanted,hgd])];have:=h _ _ (Bw W (.cells #[.slice none 0 0,.int .i64 0,.int .i64 0,.slice none 0 0,.slice none 0 0,.int .i64 0,.slice none 0 0] 38)) (Nl _) (Bv W _);obtain⟨dst,op,type,pos,after,guard⟩:=o;dsimp only at ho;subst ho;go_simp
 exact this
end
theorem Hl{w W:World}{N g:Nat}(hb:Below N w W)(hg:N≤g){t:TypeId}{x0 x1 x2 x3 x4 x5 x6:Value}(h:W.heap[g]?=some (.cells #[x0,x1,x2,x3,x4,x5,x6] t (0,0)))(v0 v1 v2 v3 v4 v5 v6:Value):∀ W',
  W'=((((((W.setCell ⟨g,0,none⟩ v0).setCell ⟨g,1,none⟩ v1).setCell ⟨g,2,none⟩ v2).setCell ⟨g,3,none⟩ v3).setCell ⟨g,4,none⟩ v4).setCell ⟨g,5,none⟩ v5).setCell ⟨g,6,none⟩ v6 →
  W'.heap[g]?=some (.cells #[v0,v1,v2,v3,v4,v5,v6] t (0,0))∧Below N w W'∧∀ j,j≠g→W'.heap[j]?=W.heap[j]?:=by
 rintro W' rfl;have sb:∀ (W:World) (i:Nat) (x:Value),Below N w W→Below N w (W.setCell ⟨g,i,none⟩ x):=fun W i x h=>h.setCell (show N≤g from hg) x
 have h1:(W.setCell ⟨g,0,none⟩ v0).heap[g]?=some (.cells #[v0,x1,x2,x3,x4,x5,x6] t (0,0)):=Bs h 0 v0;have h2:((W.setCell ⟨g,0,none⟩ v0).setCell ⟨g,1,none⟩ v1).heap[g]?=some (.cells #[v0,v1,x2,x3,x4,x5,x6] t (0,0)):=Bs h1 1 v1;have h3:(((W.setCell ⟨g,0,none⟩ v0).setCell ⟨g,1,none⟩ v1).setCell ⟨g,2,none⟩ v2).heap[g]?=some (.cells #[v0,v1,v2,x3,x4,x5,x6] t (0,0)):=Bs h2 2 v2;have h4:((((W.setCell ⟨g,0,none⟩ v0).setCell ⟨g,1,none⟩ v1).setCell ⟨g,2,none⟩ v2).setCell ⟨g,3,none⟩ v3).heap[g]?=some (.cells #[v0,v1,v2,v3,x4,x5,x6] t (0,0)):=Bs h3 3 v3;have h5:(((((W.setCell ⟨g,0,none⟩ v0).setCell ⟨g,1,none⟩ v1).setCell ⟨g,2,none⟩ v2).setCell ⟨g,3,none⟩ v3).setCell ⟨g,4,none⟩ v4).heap[g]?=some (.cells #[v0,v1,v2,v3,v4,x5,x6] t (0,0)):=Bs h4 4 v4;have h6:((((((W.setCell ⟨g,0,none⟩ v0).setCell ⟨g,1,none⟩ v1).setCell ⟨g,2,none⟩ v2).setCell ⟨g,3,none⟩ v3).setCell ⟨g,4,none⟩ v4).setCell ⟨g,5,none⟩ v5).heap[g]?=some (.cells #[v0,v1,v2,v3,v4,v5,x6] t (0,0)):=Bs h5 5 v5;have h7:(((((((W.setCell ⟨g,0,none⟩ v0).setCell ⟨g,1,none⟩ v1).setCell ⟨g,2,none⟩ v2).setCell ⟨g,3,none⟩ v3).setCell ⟨g,4,none⟩ v4).setCell ⟨g,5,none⟩ v5).setCell ⟨g,6,none⟩ v6).heap[g]?=some (.cells #[v0,v1,v2,v3,v4,v5,v6] t (0,0)):=Bs h6 6 v6;refine⟨h7,sb _ _ _ (sb _ _ _ (sb _ _ _ (sb _ _ _ (sb _ _ _ (sb _ _ _ (sb _ _ _ hb)))))),fun j hj=>?_⟩;have fr:∀ (W:World) (i:Nat) (v:Value),(W.setCell ⟨g,i,none⟩ v).heap[j]?=W.heap[j]?:=fun W i v=>Below.heap_setCell W ⟨g,i,none⟩ v j hj
 exact(fr _ _ _).trans ((fr _ _ _).trans ((fr _ _ _).trans ((fr _ _ _).trans ((fr _ _ _).trans ((fr _ _ _).trans (fr _ _ _))))))
theorem SpB.far{w W:World}{N p g i:Nat}{B C D:Option Addr}{n1 n2 n3 k1 k2 k3:Nat}{each:Int}{cs:Array Value}{t:TypeId}(h:SpB w W N p B C D n1 n2 n3 k1 k2 k3 each)(v:Value)(hg:N≤g)(hc:W.heap[g]?=some (.cells cs t (0,0)))(ht:t≠38) :
  SpB w (W.setCell ⟨g,i,none⟩ v) N p B C D n1 n2 n3 k1 k2 k3 each:=by
 have ne:∀ {j:Nat} {cs':Array Value},W.heap[j]?=some (.cells cs' 38 (0,0))→j≠g:=fun hj e=>by
  subst e;rw[hc]at hj;cases hj;exact ht rfl
 exact⟨h.b.setCell (show N≤g from hg) v,(Below.heap_setCell W ⟨g,i,none⟩ v _ (ne h.c)).trans h.c,(Below.heap_setCell W ⟨g,i,none⟩ v _ (ne h.q)).trans h.q,h.ne⟩
def HRow(W:World)(v:Value)(t:TypeId)(cs:List Value):Prop :=
 (cs=[]∧∃ A c,v=.slice A 0 c)∨∃ (g c:Nat) (arr:Array Value),v=.slice (some ⟨g,0,none⟩) cs.length c∧cs.length≤c∧0<cs.length∧W.heap[g]?=some (.cells arr t (0,0))∧∀ (j:Nat) (u:Value),cs[j]?=some u→arr[j]?=some u
theorem HRow.keep{W W1:World}{v:Value}{t:TypeId}{cs:List Value}(h:HRow W v t cs)(hb:Below W.heap.size W W1):HRow W1 v t cs:=by
 rcases h with h |⟨g,c,arr,h1,h2,h3,h4,h5⟩
 ·exact .inl h
 ·exact .inr ⟨g,c,arr,h1,h2,h3,Bk hb h4,h5⟩
theorem HRow.far{W:World}{v x:Value}{t t':TypeId}{cs:List Value}{g i:Nat}{arr:Array Value}(h:HRow W v t cs)(hg:W.heap[g]?=some (.cells arr t' (0,0)))(ht:t≠t'):HRow (W.setCell ⟨g,i,none⟩ x) v t cs:=by
 rcases h with h |⟨g',c,arr',h1,h2,h3,h4,h5⟩
 ·exact .inl h
 ·refine .inr ⟨g',c,arr',h1,h2,h3,(Below.heap_setCell W ⟨g,i,none⟩ x g' (fun e=>?_)).trans h4,h5⟩;have e':g'=g:=e;subst e';rw[hg]at h4;cases h4;exact ht rfl
theorem HRow.rd{W:World}{v:Value}{t:TypeId}{cs:List Value}(h:HRow W v t cs):Cj W v cs.length cs:=by
 rcases h with ⟨rfl,h⟩ |⟨g,c,arr,h1,h2,h3,h4,h5⟩
 ·exact .inl ⟨rfl,h⟩
 ·exact .inr ⟨g,c,h1,h2,h3,fun j u hj=>(Bc h4 j).trans (h5 j u hj)⟩
theorem HRow.rdn{W:World}{v:Value}{t:TypeId}{f:Int→Value}{xs:List Int}(h:HRow W v t (xs.map f)):Cj W v xs.length (xs.map f):=by
 have:=h.rd
 rwa [List.length_map]at this
theorem HRow.new{W:World}{g n:Nat}{t:TypeId}{arr:Array Value}(cs:List Value)(hg:W.heap[g]?=some (.cells arr t (0,0)))(hn:cs.length=n)(h0:0<n)(h:∀ (j:Nat) (u:Value),cs[j]?=some u→arr[j]?=some u):HRow W (.slice (some ⟨g,0,none⟩) n n) t cs:=by
 subst hn;exact .inr ⟨g,_,arr,rfl,Nl _,h0,hg,h⟩
def SpecHas(w:World)(T:List UInt8)(ss is rs:List Int)(each:Int)(e:Ending)(W:World):Prop :=
 ∃ va vs vi vr:Value,e=.returned (.tuple #[.agg #[va,.int .i64 (BE T).1.lock,.int .i64 (BE T).1.unlock,vs,vi,.int .i64 each,vr],.int .i64 0]) ∧
  C8 W w.heap.size va (BE T).1.l∧HRow W vs 3 (ss.map (Value.int .i64))∧HRow W vi 22 (is.map (Value.int .u32))∧HRow W vr 22 (rs.map (Value.int .u32))∧Below w.heap.size w W
theorem SpB.finH{w W:World}{N p:Nat}{B C D:Option Addr}{n1 n2 n3 k1 k2 k3:Nat}{each:Int}(h:SpB w W N p B C D n1 n2 n3 k1 k2 k3 each){t:TypeId}{v va:Value}{cs:List Value}(l u:Int)(hr:HRow W v t cs)(ht:t≠38):∀ W',
  W'=(((((((((W.setCell ⟨p,0,none⟩ va).setCell ⟨p,1,none⟩ (.int .i64 l)).setCell ⟨p,2,none⟩ (.int .i64 u)).setCell ⟨N,0,none⟩ va).setCell ⟨N,1,none⟩ (.int .i64 l)).setCell ⟨N,2,none⟩ (.int .i64 u)).setCell ⟨N,3,none⟩ (.slice B n1 k1)).setCell ⟨N,4,none⟩ (.slice C n2 k2)).setCell ⟨N,5,none⟩ (.int .i64 each)).setCell ⟨N,6,none⟩ (.slice D n3 k3) →
  HRow W' v t cs:=by
 rintro W' rfl;have hne:=h.ne;have far:∀ {W:World} {i:Nat} {o:Obj} (v:Value),W.heap[N]?=some o→(W.setCell ⟨p,i,none⟩ v).heap[N]?=some o:=fun v hj=>(Below.heap_setCell _ ⟨_,_,none⟩ v _ (show N≠p by omega)).trans hj
 have p0:=h.q;have p1:=Bs p0 0 va;have p2:=Bs p1 1 (.int .i64 l);have n0:=far (i:=2) (.int .i64 u) (far (i:=1) (.int .i64 l) (far (i:=0) va h.c));have m1:=Bs n0 0 va;have m2:=Bs m1 1 (.int .i64 l);have m3:=Bs m2 2 (.int .i64 u);have m4:=Bs m3 3 (.slice B n1 k1);have m5:=Bs m4 4 (.slice C n2 k2);have m6:=Bs m5 5 (.int .i64 each);have r1:=hr.far (i:=0) (x:=va) p0 ht;have r2:=r1.far (i:=1) (x:=.int .i64 l) p1 ht;have r3:=r2.far (i:=2) (x:=.int .i64 u) p2 ht;have r4:=r3.far (i:=0) (x:=va) n0 ht;have r5:=r4.far (i:=1) (x:=.int .i64 l) m1 ht;have r6:=r5.far (i:=2) (x:=.int .i64 u) m2 ht;have r7:=r6.far (i:=3) (x:=.slice B n1 k1) m3 ht;have r8:=r7.far (i:=4) (x:=.slice C n2 k2) m4 ht;have r9:=r8.far (i:=5) (x:=.int .i64 each) m5 ht;exact r9.far (i:=6) (x:=.slice D n3 k3) m6 ht
section
variable {ops:Array Oper} {o:Oper} {a:Act} {K:Act→World→Prop} {Q:Exit→Act→World→Prop} {E:Prop} {W:World}
theorem step_mkz(hgd:o.guard=none)(x:Operand)(ho:o.op=.makeSlice 28 x x)(z:Int)(hx:a.eval x=.int .i64 z)(k:Nat)(hz:z=k)(hk:k≤1000000)
  (h:∀ g W1 cs,Below W.heap.size W W1→W.heap.size≤g→W1.heap[g]?=some (.cells cs 22 (0,0))→(cs.size=k∧∀ j,j<k→cs[j]?=some (.int .u32 0))→K (a.put o.dst (.slice (some ⟨g,0,none⟩) k k)) W1) :
  if Region.wanted o (yielded ops a.tmps)=true then Oper.wp Tryz.prog o a W K Q else E:=by
 rw[if_pos (by simp[Region.wanted,hgd])];subst hz;obtain⟨cs,hcs,hc0,hmk⟩:=HG k hk;unfold Oper.wp execOp;simp only[ho,hx,hmk,Sem.run_bind,Result.andThen_ok];exact h _ _ cs (Bw W _) (Nl _) (Bv W _) ⟨hcs,hc0⟩
theorem step_h3(hgd:o.guard=none)(p0 p1 p2:Operand)(ho:o.op=.buildSlice 27 3 #[(0,p0),(1,p1),(2,p2)])(x0 x1 x2:Int)(h0:a.eval p0=.int .i64 x0)(h1:a.eval p1=.int .i64 x1)(h2:a.eval p2=.int .i64 x2)
  (h:∀ g W1,Below W.heap.size W W1→W1.heap[g]?=some (.cells #[.int .i64 x0,.int .i64 x1,.int .i64 x2] 3 (0,0))→K (a.put o.dst (.slice (some ⟨g,0,none⟩) 3 3)) W1) :
  if Region.wanted o (yielded ops a.tmps)=true then Oper.wp Tryz.prog o a W K Q else E:=by
 rw[if_pos (by simp[Region.wanted,hgd])];obtain⟨i9,hi,hz0,hz1,hz2⟩:=info_parts Ff;refine wp_buildSlice 27 3 3 _ ho #[.int .i64 x0,.int .i64 x1,.int .i64 x2] i9 (.int .i64 0) Tryz.underlying27 hi hz0 (by rw[hz1];decide) (by rw[hz1];decide) ?_ (h _ _ (Bw W _) (Bv W _));rw[hz1];simp only[List.map_toArray,List.map_cons,List.map_nil,h0,h1,h2]
 kernel_rfl
theorem step_h4(hgd:o.guard=none)(p0 p1 p2 p3:Operand)(ho:o.op=.buildSlice 27 4 #[(0,p0),(1,p1),(2,p2),(3,p3)])(x0 x1 x2 x3:Int)(h0:a.eval p0=.int .i64 x0)(h1:a.eval p1=.int .i64 x1)(h2:a.eval p2=.int .i64 x2)(h3:a.eval p3=.int .i64 x3)
  (h:∀ g W1,Below W.heap.size W W1→W1.heap[g]?=some (.cells #[.int .i64 x0,.int .i64 x1,.int .i64 x2,.int .i64 x3] 3 (0,0))→K (a.put o.dst (.slice (some ⟨g,0,none⟩) 4 4)) W1) :
  if Region.wanted o (yielded ops a.tmps)=true then Oper.wp Tryz.prog o a W K Q else E:=by
 rw[if_pos (by simp[Region.wanted,hgd])];obtain⟨i9,hi,hz0,hz1,hz2⟩:=info_parts Ff;refine wp_buildSlice 27 3 4 _ ho #[.int .i64 x0,.int .i64 x1,.int .i64 x2,.int .i64 x3] i9 (.int .i64 0) Tryz.underlying27 hi hz0 (by rw[hz1];decide) (by rw[hz1];decide) ?_ (h _ _ (Bw W _) (Bv W _));rw[hz1];simp only[List.map_toArray,List.map_cons,List.map_nil,h0,h1,h2,h3]
 kernel_rfl
end
theorem HRow.zeros{W:World}{g k:Nat}{arr:Array Value}(hg:W.heap[g]?=some (.cells arr 22 (0,0)))(h0:0<k)(h:∀ j,j<k→arr[j]?=some (.int .u32 0)):HRow W (.slice (some ⟨g,0,none⟩) k k) 22 ((List.replicate k (0:Int)).map (Value.int .u32)):=by
 refine HRow.new _ hg (by simp) h0 (fun j u hj=>?_);rw[List.map_replicate,List.getElem?_replicate]at hj;by_cases hl:j<k
 ·rw[if_pos hl]at hj;cases hj;exact h j hl
 ·rw[if_neg hl]at hj;cases hj
theorem seven_H{W:World}{g:Nat}{t t':TypeId}{x0 x1 x2 x3 x4 x5 x6:Value}{v:Value}{cs:List Value}(h:W.heap[g]?=some (.cells #[x0,x1,x2,x3,x4,x5,x6] t' (0,0)))(hr:HRow W v t cs)(ht:t≠t')(v0 v1 v2 v3 v4 v5 v6:Value):∀ W',
  W'=((((((W.setCell ⟨g,0,none⟩ v0).setCell ⟨g,1,none⟩ v1).setCell ⟨g,2,none⟩ v2).setCell ⟨g,3,none⟩ v3).setCell ⟨g,4,none⟩ v4).setCell ⟨g,5,none⟩ v5).setCell ⟨g,6,none⟩ v6→HRow W' v t cs:=by
 rintro W' rfl;have h1:(W.setCell ⟨g,0,none⟩ v0).heap[g]?=some (.cells #[v0,x1,x2,x3,x4,x5,x6] t' (0,0)):=Bs h 0 v0;have r1:=HRow.far (i:=0) (x:=v0) hr h ht;have h2:((W.setCell ⟨g,0,none⟩ v0).setCell ⟨g,1,none⟩ v1).heap[g]?=some (.cells #[v0,v1,x2,x3,x4,x5,x6] t' (0,0)):=Bs h1 1 v1;have r2:=HRow.far (i:=1) (x:=v1) r1 h1 ht;have h3:(((W.setCell ⟨g,0,none⟩ v0).setCell ⟨g,1,none⟩ v1).setCell ⟨g,2,none⟩ v2).heap[g]?=some (.cells #[v0,v1,v2,x3,x4,x5,x6] t' (0,0)):=Bs h2 2 v2;have r3:=HRow.far (i:=2) (x:=v2) r2 h2 ht;have h4:((((W.setCell ⟨g,0,none⟩ v0).setCell ⟨g,1,none⟩ v1).setCell ⟨g,2,none⟩ v2).setCell ⟨g,3,none⟩ v3).heap[g]?=some (.cells #[v0,v1,v2,v3,x4,x5,x6] t' (0,0)):=Bs h3 3 v3;have r4:=HRow.far (i:=3) (x:=v3) r3 h3 ht;have h5:(((((W.setCell ⟨g,0,none⟩ v0).setCell ⟨g,1,none⟩ v1).setCell ⟨g,2,none⟩ v2).setCell ⟨g,3,none⟩ v3).setCell ⟨g,4,none⟩ v4).heap[g]?=some (.cells #[v0,v1,v2,v3,v4,x5,x6] t' (0,0)):=Bs h4 4 v4;have r5:=HRow.far (i:=4) (x:=v4) r4 h4 ht;have h6:((((((W.setCell ⟨g,0,none⟩ v0).setCell ⟨g,1,none⟩ v1).setCell ⟨g,2,none⟩ v2).setCell ⟨g,3,none⟩ v3).setCell ⟨g,4,none⟩ v4).setCell ⟨g,5,none⟩ v5).heap[g]?=some (.cells #[v0,v1,v2,v3,v4,v5,x6] t' (0,0)):=Bs h5 5 v5;have r6:=HRow.far (i:=5) (x:=v5) r5 h5 ht;have h7:(((((((W.setCell ⟨g,0,none⟩ v0).setCell ⟨g,1,none⟩ v1).setCell ⟨g,2,none⟩ v2).setCell ⟨g,3,none⟩ v3).setCell ⟨g,4,none⟩ v4).setCell ⟨g,5,none⟩ v5).setCell ⟨g,6,none⟩ v6).heap[g]?=some (.cells #[v0,v1,v2,v3,v4,v5,v6] t' (0,0)):=Bs h6 6 v6;have r7:=HRow.far (i:=6) (x:=v6) r6 h6 ht;exact r7
theorem HRow.off{W:World}{v x:Value}{t:TypeId}{cs:List Value}{g i:Nat}(h:HRow W v t cs)(hne:∀ g' n c,v=.slice (some ⟨g',0,none⟩) n c→g'≠g):HRow (W.setCell ⟨g,i,none⟩ x) v t cs:=by
 rcases h with h |⟨g',c,arr',h1,h2,h3,h4,h5⟩
 ·exact .inl h
 ·exact .inr ⟨g',c,arr',h1,h2,h3,(Below.heap_setCell W ⟨g,i,none⟩ x g' (hne _ _ _ h1)).trans h4,h5⟩
theorem HRow.put{W:World}{x:Value}{t:TypeId}{cs:List Value}{g i n c:Nat}(h:HRow W (.slice (some ⟨g,0,none⟩) n c) t cs):HRow (W.setCell ⟨g,i,none⟩ x) (.slice (some ⟨g,0,none⟩) n c) t (cs.set i x):=by
 rcases h with ⟨rfl,h⟩ |⟨g',c',arr',h1,h2,h3,h4,h5⟩
 ·exact .inl ⟨rfl,h⟩
 ·have e:g=g':=by injection h1 with a;injection a with a;injection a
  subst e;refine .inr ⟨g,c',_,by rw[List.length_set];exact h1,by rw[List.length_set];exact h2,by rw[List.length_set];exact h3,Bs h4 i x,fun j u hj=>?_⟩;by_cases hji:i=j
  ·subst hji;have hlt:i<(cs.set i x).length:=(List.getElem?_eq_some_iff.1 hj).1;rw[List.length_set]at hlt;rw[List.getElem?_set_self hlt]at hj;cases hj;have hs:i<arr'.size:=by
    have:=h5 i cs[i] (List.getElem?_eq_getElem hlt);exact(Array.getElem?_eq_some_iff.1 this).1
   simp[hs]
  ·rw[List.getElem?_set_ne hji]at hj;rw[Array.getElem?_setIfInBounds_ne hji];exact h5 j u hj
end
end Go.Proofs.YtnmahobjmpdkdaaGreatDoor

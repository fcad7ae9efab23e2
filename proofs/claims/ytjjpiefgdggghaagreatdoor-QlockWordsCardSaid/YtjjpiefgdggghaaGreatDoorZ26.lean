/- Parts: Ref7, SpecKit, RefAsmKit. -/
import Derived.Test.YtjjpiefgdggghaaGreatDoorZ02
import Derived.Test.YtjjpiefgdggghaaGreatDoorZ10
import Derived.Test.YtjjpiefgdggghaaGreatDoorZ07
import Derived.Test.YtjjpiefgdggghaaGreatDoorZ25
import Derived.Test.YtjjpiefgdggghaaGreatDoorZ23
import Derived.Deep.RegionHeld3
set_option linter.unusedVariables false
set_option linter.unusedSimpArgs false
set_option maxRecDepth 100000
set_option maxHeartbeats 40000000
namespace Go.Proofs.YtjjpiefgdggghaaGreatDoor
section
open Go.RowKit Go.Proofs.YtjjpiefgdggghaaGreatDoorW.PrintWords
theorem LP(i:In)(w:World):Calls Tryz.prog 70 #[i.v] w fun e w'=>e=.returned i.v∧Below w.heap.size w w':=by
 cases i with
 |mk op d s t u a k q =>
  unfold In.v;go_enter Tryz.func70,Tryz.ntmps70;go_wp2;refine bodyPost_ret (results_cell_row rfl _ _ (w.heap.size+1) 114 (In.cs ⟨op,d,s,t,u,a,k,q⟩) (0,0) _ rfl (by exact Cx _ _ _) Tryz.underlying114 rfl (by kernel_rfl)) rfl ⟨rfl,?_⟩;apply_rules [Below.setCell,Below.alloc,Below.refl]<;>first |omega |(simp;omega) |simp
theorem Ii:(Tryz.prog.info? 114).map (fun i=>(i.zero,i.size,i.bytes))=some (some (.agg In.zero.cs),8,64):=by kernel_rfl
def AV(W:World)(base:Nat)(v:Value)(xs:List In):Prop:=W.ownsRow base 114 8 v xs.length (AP xs)
theorem AV.nil(W:World)(base:Nat):AV W base (.slice none 0 0) []:=⟨rfl,.inl ⟨rfl,rfl⟩⟩
theorem AV.mono{W:World}{base base':Nat}{v:Value}{xs:List In}(h:AV W base v xs)(hb:base'≤base):AV W base' v xs:=by
 obtain⟨h1,h2⟩:=h;refine⟨h1,?_⟩;rcases h2 with h0 |⟨g,cap,cur,e,hg,r⟩
 ·exact .inl h0
 ·exact .inr ⟨g,cap,cur,e,Nat.le_trans hb hg,r⟩
theorem AV.rd{W:World}{base:Nat}{v:Value}{xs:List In}(h:AV W base v xs):BA W v xs.length (AP xs):=by
 obtain⟨h1,h2⟩:=h;rcases h2 with ⟨rfl,h0⟩ |⟨g,cap,cur,rfl,hg,hh,hc,hm,hs,ht⟩
 ·rw[h0];exact .inl ⟨rfl,_,_,rfl⟩
 ·by_cases hn:0<xs.length
  ·refine .inr ⟨g,cap,rfl,hc,hn,fun j u hj=>(Bc hh j).trans ?_⟩;have hlt:j<xs.length*8:=by rw[←h1];exact(List.getElem?_eq_some_iff.1 hj).1
   rw[←ht,List.getElem?_take_of_lt hlt,Array.getElem?_toList]at hj;exact hj
  ·have h0:xs.length=0:=by omega
   rw[h0];exact .inl ⟨rfl,_,_,rfl⟩
section
variable {ops:Array Oper} {o:Oper} {a:Act} {K:Act→World→Prop} {Q:Exit→Act→World→Prop} {E:Prop} {W:World}
theorem Nr(hgd:o.guard=none)(x:Operand)(ho:o.op=.buildSlice 23 1 #[(0,x)])(i:In)(hx:a.eval x=.agg i.cs)
  (h:∀ g W1,Below W.heap.size W W1→W1.heap[g]?=some (.cells i.cs 114 (0,0))→K (a.put o.dst (.slice (some ⟨g,0,none⟩) 1 1)) W1) :
  if Region.wanted o (yielded ops a.tmps)=true then Oper.wp Tryz.prog o a W K Q else E:=by
 rw[if_pos (by simp[Region.wanted,hgd])];obtain⟨i9,hi,hz0,hz1,hz2⟩:=info_parts Ii;refine wp_buildSlice 23 114 1 _ ho i.cs i9 (.agg In.zero.cs) Tryz.underlying23 hi hz0 (by rw[hz1];decide) (by rw[hz1];decide) ?_ (h _ _ (Bw W _) (Bv _ _));rw[hz1];simp only[List.map_toArray,List.map_cons,List.map_nil,hx];cases i
 kernel_rfl
theorem Ns(hgd:o.guard=none)(s x:Operand)(ho:o.op=.call {callee:=.builtin .append,args:=#[s,x],argTypes:=#[23,23]})
  (base g:Nat)(y:In)(v:Value)(xs:List In)(hs:a.eval s=v)(hr:AV W base v xs)(hx:a.eval x=.slice (some ⟨g,0,none⟩) 1 1)
  (hy:W.heap[g]?=some (.cells y.cs 114 (0,0)))(hl:xs.length≤1000000)(hb:base≤W.heap.size)
  (h:∀ v' W1,AV W1 base v' (xs++[y])→W.grownBy W1 v.ownBlock→(v'.ownBlock=v.ownBlock∨v'.ownBlock=some W.heap.size)→K (a.put o.dst v') W1) :
  if Region.wanted o (yielded ops a.tmps)=true then Oper.wp Tryz.prog o a W K Q else E:=by
 obtain⟨i9,hi,hz0,hz1,hz2⟩:=info_parts Ii;refine EC hgd s x 23 ho base 114 i9 (.agg In.zero.cs) 8 64 Tryz.underlying23 hi hz0 hz1 hz2 rfl (by decide) v xs.length (AP xs) hs hr g y.cs (0,0) hx hy rfl ?_ hl (by decide) hb ?_
 ·intro u hu;have:u∈y.cs.toList:=hu;simp[In.cs]at this;rcases this with rfl |rfl |rfl |rfl |rfl |rfl |rfl |rfl<;>rfl
 ·intro v' W1 h1 h2 h4;refine h v' W1 ?_ h2 h4;unfold AV;rw[Ei,List.length_append];exact h1
end
structure OK (w W:World) (N:Nat) (l u:Int) (v:Value) (xs:List In):Prop where
 b:Below N w W
 c1:W.heap[N+1]?=some (.cells #[.slice none 0 0,.int .i64 0,.int .i64 0] 25 (0,0))
 c2:W.heap[N+2]?=some (.cells #[v,.int .i64 l,.int .i64 u] 25 (0,0))
 r:AV W N v xs
section
variable {w W W1:World} {N:Nat} {l u:Int} {v v':Value} {xs:List In} {y:In}
theorem OK.keep(h:OK w W N l u v xs)(hb:Below W.heap.size W W1):OK w W1 N l u v xs :=
 ⟨h.b.trans (hb.mono (by have:=Bl h.c1;omega)),Bk hb h.c1,Bk hb h.c2,Om h.r (fun k hk=>hb.block k (Ol h.r k hk))⟩
theorem OK.app(h:OK w W N l u v xs)(hr:AV W1 N v' (xs++[y]))(hg:W.grownBy W1 v.ownBlock)(hz:N≤W.heap.size) :
  Below N w W1∧W1.heap[N+1]?=some (.cells #[.slice none 0 0,.int .i64 0,.int .i64 0] 25 (0,0))∧W1.heap[N+2]?=some (.cells #[v,.int .i64 l,.int .i64 u] 25 (0,0)) ∧
   OK w (W1.setCell ⟨N+2,0,none⟩ v') N l u v' (xs++[y]):=by
 have hb:=h.b.grown hg hz (fun k hk=>Ob h.r k hk);have c1:=Bg h.c1 hg (Oa h.r h.c1 (by decide));have c2:=Bg h.c2 hg (Oa h.r h.c2 (by decide));exact⟨hb,c1,c2,hb.setCell (show N≤N+2 by omega) _,(Below.heap_setCell W1 ⟨N+2,0,none⟩ v' _ (show N+1≠N+2 by omega)).trans c1,Bs c2 0 _,Rs hr c2 (by decide) 0 v'⟩
end
def Rh(N b:Nat)(v:Value)(i:In)(W:World):Prop :=
 W.cell? ⟨N+2,0,none⟩=some v∧W.cell? ⟨b,0,none⟩=some (.int .i64 i.op)∧W.cell? ⟨b,1,none⟩=some (.int .i64 i.d)∧W.cell? ⟨b,2,none⟩=some (.int .i64 i.s)∧W.cell? ⟨b,3,none⟩=some (.int .i64 i.t) ∧
 W.cell? ⟨b,4,none⟩=some (.int .i64 i.u)∧W.cell? ⟨b,5,none⟩=some (.int .i64 i.a)∧W.cell? ⟨b,6,none⟩=some (.int .u32 i.k)∧W.cell? ⟨b,7,none⟩=some (.int .i64 i.q)
theorem O8{W:World}{N b:Nat}{v:Value}{i:In}{l u:Int}(hc:W.heap[N+2]?=some (.cells #[v,.int .i64 l,.int .i64 u] 25 (0,0)))(he:W.heap[b]?=some (.cells i.cs 126 (0,0))):Rh N b v i W :=
 ⟨(Bc hc 0).trans rfl,(Bc he 0).trans rfl,(Bc he 1).trans rfl,(Bc he 2).trans rfl,(Bc he 3).trans rfl,(Bc he 4).trans rfl,(Bc he 5).trans rfl,(Bc he 6).trans rfl,(Bc he 7).trans rfl⟩
theorem KB(va:Value)(l u:Int)(xs:List In)(w:World)(ha:BA w va xs.length (AP xs))(hn:xs.length≤1000) :
  Calls Tryz.prog 39 #[.agg #[va,.int .i64 l,.int .i64 u]] w fun e W=>∃ v,e=.returned (.agg #[v,.int .i64 l,.int .i64 u])∧AV W w.heap.size v xs∧Below w.heap.size w W:=by
 obtain⟨A,c,rfl⟩:=ha.slice;obtain⟨n,hl⟩:∃ n,xs.length=n:=⟨_,rfl⟩
 rw[hl]at ha hn ⊢;have h0:OK w (((w.alloc (.cells #[.slice A n c,.int .i64 l,.int .i64 u] 35)).alloc (.cells #[.slice none 0 0,.int .i64 0,.int .i64 0] 25)).alloc (.cells #[.slice none 0 0,.int .i64 l,.int .i64 u] 25)) w.heap.size l u (.slice none 0 0) []:=by
  obtain⟨w1,e1⟩:∃ x,w.alloc (.cells #[.slice A n c,.int .i64 l,.int .i64 u] 35)=x:=⟨_,rfl⟩
  have z1:w1.heap.size=w.heap.size+1:=by rw[←e1];simp
  have k1:Below w.heap.size w w1:=e1▸Bw w _;rw[e1];obtain⟨w2,e2⟩:∃ x,w1.alloc (.cells #[.slice none 0 0,.int .i64 0,.int .i64 0] 25)=x:=⟨_,rfl⟩
  have z2:w2.heap.size=w.heap.size+2:=by rw[←e2];simp[z1]
  have k2:Below w1.heap.size w1 w2:=e2▸Bw w1 _;have n1:w2.heap[w.heap.size+1]?=_:=e2▸z1▸Bv w1 _;rw[e2];have n2:(w2.alloc (.cells #[.slice none 0 0,.int .i64 l,.int .i64 u] 25)).heap[w.heap.size+2]?=_:=z2▸Bv w2 _;exact⟨(k1.trans (k2.mono (by omega))).trans ((Bw w2 _).mono (by omega)),As n1 _,n2,AV.nil _ _⟩
 replace h0:=Az h0;replace ha:=Az ha;replace hl:=Az hl;go_enter Tryz.func39,Tryz.ntmps39;go_wp2_with fail
 simp only[Nat.add_assoc,Nat.reduceAdd];go_loopw [14] (fun v14 wr=>∃ (k:Nat) (v:Value),v14=.int .i64 k∧k≤n∧Ai (OK w wr w.heap.size l u v (xs.take k))) (fun v14 _=>n-(intOf v14).toNat)
 case atStart=>exact⟨0,.slice none 0 0,rfl,Nat.zero_le _,⟨by simpa using h0.out⟩⟩
 case round =>
  obtain⟨k,v,rfl,hk,hI⟩:=hrel;by_cases hlt:k<n
  ·obtain⟨ga,c',hva,hca⟩:=(ha.out.keep hI.out.b).cells (by omega);obtain⟨rfl,rfl⟩:A=some ⟨ga,0,none⟩∧c=c':=by injection hva with h1 h2 h3;exact⟨h1,h3⟩
   have hkx:k<xs.length:=by rw[hl.out];exact hlt
   have htake:=Cf xs k In.zero hkx;have hsn:xs.take (k+1)=xs.take k++[xs.getD k In.zero]:=by
    rw[List.take_add_one,List.getElem?_eq_getElem hkx];simp[List.getD_eq_getElem?_getD,List.getElem?_eq_getElem hkx]
   obtain⟨⟨op,dd,s,t,uu,a,kk,q⟩,hi⟩:∃ i,xs.getD k In.zero=i:=⟨_,rfl⟩
   rw[hi]at hsn;obtain⟨a0,a1,a2,a3,a4,a5,a6,a7⟩:=EO hca hkx hi;obtain⟨V,m,cv,rfl⟩:=AB hI.out.r;have hk0:(0:Int)≤(k:Int):=by omega
   have hk1:(k:Int)<(n:Int):=by omega
   have hkw:IntKind.i64.wrap ((k:Int)+1)=(k:Int)+1:=by rw[IntKind.wrap_i64];omega
   have R6:=fun W=>LP ⟨op,dd,s,t,uu,a,kk,q⟩ W
   dsimp only[In.v]at R6;replace R6:=Az R6;have hlk:(xs.take k).length≤1000000:=by rw[List.length_take];omega
   replace hlk:=Az hlk;replace hsn:=Az hsn;have hE:=Az (Bv wr (.cells (In.cs ⟨op,dd,s,t,uu,a,kk,q⟩) 126));have hI2:=Az (hI.out.keep (Bw wr (.cells (In.cs ⟨op,dd,s,t,uu,a,kk,q⟩) 126)));obtain⟨b,hb⟩:∃ b,wr.heap.size=b:=⟨_,rfl⟩
   obtain⟨w5,hw5⟩:∃ y,wr.alloc (.cells (In.cs ⟨op,dd,s,t,uu,a,kk,q⟩) 126)=y:=⟨_,rfl⟩
   rw[hw5,hb]at hE;rw[hw5]at hI2;simp only[In.cs]at hw5;clear hva hca hi htake hkx;go_upto_region 5 with fail
   try rw[hw5]
   try rw[hb]
   clear hw5 hb a0 a1 a2 a3 a4 a5 a6 a7 hI;have hd0:Below w5.heap.size w5 w5.drew:=Bd (Below.refl _ _);replace hI2:=hI2.out.keep hd0;replace hE:=Bk hd0 hE.out;have hS:=O8 (b:=b) hI2.c2 hE;refine Aw [7] (S:=Rh w.heap.size b (.slice V m cv) ⟨op,dd,s,t,uu,a,kk,q⟩) (by kernel_rfl) hS (fun hS0=>?_);clear hS hd0;generalize w5.drew=w5 at *;refine tY 0 (fun _=>by assumption) ?_;refine tL 1 (by assumption) ?_;refine tL 2 (by assumption) ?_;refine Ab (rs:=[3]) (by kernel_rfl) (by simp) ?_;refine Aa.cons (o:=?oq3) ?hoq3 (fun K hK=>?_) Aa.nil;case hoq3=>refine Ac ?_;rfl
   go_simp
   go_at_call 70
   refine(R6.out _).mono ?_;rintro e w6 ⟨rfl,hb6⟩;replace hI2:=hI2.keep hb6;replace hE:=Bk hb6 hE;clear hS0 R6;go_wp2_with fail
   refine hK.out _ _ (fun _=>O8 hI2.c2 hE) (fun hS6=>?_);replace hS6:=hS6 rfl;try simp only[Act.put,Sa,Sb,Sc]
   refine Ab (rs:=[4]) (by kernel_rfl) (by simp) ?_;refine Aa.cons (Ac rfl) (fun K hK=>?_) Aa.nil;refine Nr rfl (.tmp 21) rfl ⟨op,dd,s,t,uu,a,kk,q⟩ rfl (fun g22 w7 hb7 hy=>?_);replace hI2:=hI2.keep hb7;replace hE:=Bk hb7 hE;refine hK.out _ _ (fun _=>O8 hI2.c2 hE) (fun hS7=>?_);replace hS7:=hS7 rfl;try simp only[Act.put,Sa,Sb,Sc]
   refine Ab (rs:=[5]) (by kernel_rfl) (by simp) ?_;refine Aa.cons (Ac rfl) (fun K hK=>?_) Aa.nil;refine Ns rfl (.tmp 19) (.tmp 22) rfl w.heap.size g22 ⟨op,dd,s,t,uu,a,kk,q⟩ _ (xs.take k) rfl hI2.r rfl hy hlk.out (by have:=Bl hI2.c1;omega) (fun v' w8 hr hg _=>?_);obtain⟨q1,q2,q3,hI3⟩:=hI2.app hr hg (by have:=Bl hI2.c1;omega);obtain⟨V',m',cv',rfl⟩:=AB hr;refine hK.out _ _ (fun _=>O8 q3 (Bg hE hg (Oa hI2.r hE (by decide)))) (fun hS8=>?_);replace hS8:=hS8 rfl;try simp only[Act.put,Sa,Sb,Sc]
   refine tY 6 (fun _=>by assumption) ?_;have c0:w8.cell? ⟨w.heap.size+2,0,none⟩=some (.slice V m cv):=(Bc q3 0).trans rfl;have f0:=Bf q3 0;have z0:w.heap.size+2<w8.heap.size:=Bl q3;replace hI3:=Az hI3;clear hS6 hS7 hS8 q1 q2 q3 hr hg hI2 hE;refine Ab (rs:=[7]) (by kernel_rfl) (by simp) ?_;refine Aa.cons (Ac rfl) (fun K hK=>?_) Aa.nil;go_simp
   go_wp2_with fail
   refine hK.out _ _ (fun h=>by cases h) (fun _=>?_);try simp only[Act.put,Sa,Sb,Sc]
   refine AL (by kernel_rfl) ?_ _;go_wp2_with fail
   go_roundw
   case rel=>exact⟨k+1,_,by go_num,hlt,⟨by rw[hsn.out];exact hI3.out⟩⟩
   case measure=>simp[intOf];omega
  ·obtain rfl:k=n:=by omega
   have hge:¬(k:Int)<(k:Int):=by omega
   have e0:xs.take k=xs:=by rw[←hl.out];exact List.take_length
   rw[e0]at hI;obtain⟨V,m,cv,rfl⟩:=AB hI.out.r;have r0:wr.cell? ⟨w.heap.size+2,0,none⟩=some (.slice V m cv):=(Bc hI.out.c2 0).trans rfl;have r1:wr.cell? ⟨w.heap.size+2,1,none⟩=some (.int .i64 l):=(Bc hI.out.c2 1).trans rfl;have r2:wr.cell? ⟨w.heap.size+2,2,none⟩=some (.int .i64 u):=(Bc hI.out.c2 2).trans rfl;have d0:wr.cell? ⟨w.heap.size+1,0,none⟩=some (.slice none 0 0):=(Bc hI.out.c1 0).trans rfl;have d1:wr.cell? ⟨w.heap.size+1,1,none⟩=some (.int .i64 0):=(Bc hI.out.c1 1).trans rfl;have d2:wr.cell? ⟨w.heap.size+1,2,none⟩=some (.int .i64 0):=(Bc hI.out.c1 2).trans rfl;have f0:=Bf hI.out.c1 0;have f1:=Bf hI.out.c1 1;have f2:=Bf hI.out.c1 2;have z0:w.heap.size+1<wr.heap.size:=Bl hI.out.c1;have fin:∀ W',W'=((wr.setCell ⟨w.heap.size+1,0,none⟩ (.slice V m cv)).setCell ⟨w.heap.size+1,1,none⟩ (.int .i64 l)).setCell ⟨w.heap.size+1,2,none⟩ (.int .i64 u) →
     W'.heap[w.heap.size+1]?=some (.cells #[.slice V m cv,.int .i64 l,.int .i64 u] 25 (0,0))∧AV W' w.heap.size (.slice V m cv) xs∧Below w.heap.size w W':=by
    rintro W' rfl;have h1:=Bs hI.out.c1 0 (.slice V m cv);have r1:=Rs hI.out.r hI.out.c1 (by decide) 0 (.slice V m cv);have b1:=hI.out.b.setCell (show w.heap.size≤w.heap.size+1 by omega) (p:=⟨w.heap.size+1,0,none⟩) (.slice V m cv);have h2:=Bs h1 1 (.int .i64 l);have r2:=Rs r1 h1 (by decide) 1 (.int .i64 l);have b2:=b1.setCell (show w.heap.size≤w.heap.size+1 by omega) (p:=⟨w.heap.size+1,1,none⟩) (.int .i64 l);have r3:=Rs r2 h2 (by decide) 2 (.int .i64 u);exact⟨Bs h2 2 (.int .i64 u),r3,b2.setCell (show w.heap.size≤w.heap.size+1 by omega) (p:=⟨w.heap.size+1,2,none⟩) (.int .i64 u)⟩
   replace fin:=Az fin;clear hI e0;go_wp2;obtain⟨g1,g2,g3⟩:=fin.out _ rfl;refine bodyPost_ret (results_cell_row rfl _ _ (w.heap.size+1) 25 #[.slice V m cv,.int .i64 l,.int .i64 u] (0,0) _ rfl g1 Tryz.underlying25 rfl (by kernel_rfl)) rfl ⟨_,rfl,g2,g3⟩
theorem EG{W W1:World}{g:Nat}{x0 x1 x2 x3 x4 x5 x6:Value}(hb:Below W.heap.size W W1)
  (h:W.cell? ⟨g,0,none⟩=some x0∧W.cell? ⟨g,1,none⟩=some x1∧W.cell? ⟨g,2,none⟩=some x2∧W.cell? ⟨g,3,none⟩=some x3∧W.cell? ⟨g,4,none⟩=some x4∧W.cell? ⟨g,5,none⟩=some x5∧W.cell? ⟨g,6,none⟩=some x6) :
  W1.cell? ⟨g,0,none⟩=some x0∧W1.cell? ⟨g,1,none⟩=some x1∧W1.cell? ⟨g,2,none⟩=some x2∧W1.cell? ⟨g,3,none⟩=some x3∧W1.cell? ⟨g,4,none⟩=some x4∧W1.cell? ⟨g,5,none⟩=some x5∧W1.cell? ⟨g,6,none⟩=some x6 :=
 ⟨Ck hb h.1,Ck hb h.2.1,Ck hb h.2.2.1,Ck hb h.2.2.2.1,Ck hb h.2.2.2.2.1,Ck hb h.2.2.2.2.2.1,Ck hb h.2.2.2.2.2.2⟩
theorem DP(va:Value)(l u each:Int)(B C D:Option Addr)(n1 n2 n3 k1 k2 k3:Nat)(xs:List In)(w:World)(ha:BA w va xs.length (AP xs))(hn:xs.length≤1000) :
  Calls Tryz.prog 15 #[.agg #[va,.int .i64 l,.int .i64 u,.slice B n1 k1,.slice C n2 k2,.int .i64 each,.slice D n3 k3]] w fun e W=>∃ v,e=.returned (.agg #[v,.int .i64 l,.int .i64 u,.slice B n1 k1,.slice C n2 k2,.int .i64 each,.slice D n3 k3])∧AV W w.heap.size v xs∧Below w.heap.size w W:=by
 have C7:=Az (fun(W:World) (hb:Below w.heap.size w W)=>KB va l u xs W (ha.keep hb) hn);obtain⟨A,c,rfl⟩:=ha.slice;clear ha hn;generalize xs.length=n at *;have hB0:=Az (((Below.refl w.heap.size w).alloc (Nl _) (.cells #[.slice A n c,.int .i64 l,.int .i64 u,.slice B n1 k1,.slice C n2 k2,.int .i64 each,.slice D n3 k3] 37)).alloc (by simp) (.cells #[.slice none 0 0,.int .i64 0,.int .i64 0,.slice none 0 0,.slice none 0 0,.int .i64 0,.slice none 0 0] 29));have b1:=As (Bv w (.cells #[.slice A n c,.int .i64 l,.int .i64 u,.slice B n1 k1,.slice C n2 k2,.int .i64 each,.slice D n3 k3] 37)) (.cells #[.slice none 0 0,.int .i64 0,.int .i64 0,.slice none 0 0,.slice none 0 0,.int .i64 0,.slice none 0 0] 29);have b2:=Az (Cx w (.cells #[.slice A n c,.int .i64 l,.int .i64 u,.slice B n1 k1,.slice C n2 k2,.int .i64 each,.slice D n3 k3] 37) (.cells #[.slice none 0 0,.int .i64 0,.int .i64 0,.slice none 0 0,.slice none 0 0,.int .i64 0,.slice none 0 0] 29));go_enter Tryz.func15,Tryz.ntmps15;obtain⟨w2,hw2⟩:∃ y,(w.alloc (.cells #[.slice A n c,.int .i64 l,.int .i64 u,.slice B n1 k1,.slice C n2 k2,.int .i64 each,.slice D n3 k3] 37)).alloc (.cells #[.slice none 0 0,.int .i64 0,.int .i64 0,.slice none 0 0,.slice none 0 0,.int .i64 0,.slice none 0 0] 29)=y:=⟨_,rfl⟩
 rw[hw2]at hB0 b1 b2;go_upto_region 1 with fail
 try rw[hw2]
 clear hw2;have hS:w2.drew.cell? ⟨w.heap.size,0,none⟩=some (.slice A n c)∧w2.drew.cell? ⟨w.heap.size,1,none⟩=some (.int .i64 l)∧w2.drew.cell? ⟨w.heap.size,2,none⟩=some (.int .i64 u)∧w2.drew.cell? ⟨w.heap.size,3,none⟩=some (.slice B n1 k1)∧w2.drew.cell? ⟨w.heap.size,4,none⟩=some (.slice C n2 k2)∧w2.drew.cell? ⟨w.heap.size,5,none⟩=some (.int .i64 each)∧w2.drew.cell? ⟨w.heap.size,6,none⟩=some (.slice D n3 k3) :=
  ⟨(Bc b1 0).trans rfl,(Bc b1 1).trans rfl,(Bc b1 2).trans rfl,(Bc b1 3).trans rfl,(Bc b1 4).trans rfl,(Bc b1 5).trans rfl,(Bc b1 6).trans rfl⟩
 refine Aw [12] (S:=fun W=>W.cell? ⟨w.heap.size,0,none⟩=some (.slice A n c)∧W.cell? ⟨w.heap.size,1,none⟩=some (.int .i64 l)∧W.cell? ⟨w.heap.size,2,none⟩=some (.int .i64 u)∧W.cell? ⟨w.heap.size,3,none⟩=some (.slice B n1 k1)∧W.cell? ⟨w.heap.size,4,none⟩=some (.slice C n2 k2)∧W.cell? ⟨w.heap.size,5,none⟩=some (.int .i64 each)∧W.cell? ⟨w.heap.size,6,none⟩=some (.slice D n3 k3)) (by kernel_rfl) hS (fun hS0=>?_);replace hB0:=Az (hB0.out.trans ((Bd (Below.refl _ w2)).mono hB0.out.size));replace b2:=Az (Be b2.out);clear hS b1;generalize w2.drew=w2 at *;refine tY 0 (fun _=>by assumption) ?_;refine tL 1 (by assumption) ?_;refine tY 3 (fun _=>by assumption) ?_;refine tL 4 (by assumption) ?_;refine tY 5 (fun _=>by assumption) ?_;refine tL 6 (by assumption) ?_;refine tY 7 (fun _=>by assumption) ?_;refine tL 8 (by assumption) ?_;refine tY 9 (fun _=>by assumption) ?_;refine tL 10 (by assumption) ?_;refine Ab (rs:=[2]) (by kernel_rfl) (by simp) ?_;refine Aa.cons (o:=?oq2) ?hoq2 (fun K hK=>?_) Aa.nil;case hoq2=>refine Ac ?_;rfl
 go_simp
 go_at_call 39
 refine(C7.out _ hB0.out).mono ?_;rintro e w3 ⟨v,rfl,hr,hb⟩;obtain⟨V,m,kv,rfl⟩:=AB hr;have hS3:=EG hb hS0;replace hr:=Az (show AV w3 w2.heap.size _ xs∧w.heap.size≤w2.heap.size from⟨hr,hB0.out.size⟩);replace hB0:=Az (hB0.out.trans (hb.mono hB0.out.size));replace b2:=Az (Bk hb b2.out);clear hS0 hb C7;go_wp2_with fail
 refine hK.out _ _ (fun _=>hS3) (fun _=>?_);try simp only[Act.put,Sa,Sb,Sc]
 refine tY 11 (fun _=>by assumption) ?_;have c0:w3.cell? ⟨w.heap.size+1,0,none⟩=some (.slice none 0 0):=(Bc b2.out 0).trans rfl;have c1:w3.cell? ⟨w.heap.size+1,1,none⟩=some (.int .i64 0):=(Bc b2.out 1).trans rfl;have c2:w3.cell? ⟨w.heap.size+1,2,none⟩=some (.int .i64 0):=(Bc b2.out 2).trans rfl;have c3:w3.cell? ⟨w.heap.size+1,3,none⟩=some (.slice none 0 0):=(Bc b2.out 3).trans rfl;have c4:w3.cell? ⟨w.heap.size+1,4,none⟩=some (.slice none 0 0):=(Bc b2.out 4).trans rfl;have c5:w3.cell? ⟨w.heap.size+1,5,none⟩=some (.int .i64 0):=(Bc b2.out 5).trans rfl;have c6:w3.cell? ⟨w.heap.size+1,6,none⟩=some (.slice none 0 0):=(Bc b2.out 6).trans rfl;have f0:=Bf b2.out 0;have f1:=Bf b2.out 1;have f2:=Bf b2.out 2;have f3:=Bf b2.out 3;have f4:=Bf b2.out 4;have f5:=Bf b2.out 5;have f6:=Bf b2.out 6;have z0:w.heap.size+1<w3.heap.size:=Bl b2.out;have fin:∀ W',W'=((((((w3.setCell ⟨w.heap.size+1,0,none⟩ (.slice V m kv)).setCell ⟨w.heap.size+1,1,none⟩ (.int .i64 l)).setCell ⟨w.heap.size+1,2,none⟩ (.int .i64 u)).setCell ⟨w.heap.size+1,3,none⟩ (.slice B n1 k1)).setCell ⟨w.heap.size+1,4,none⟩ (.slice C n2 k2)).setCell ⟨w.heap.size+1,5,none⟩ (.int .i64 each)).setCell ⟨w.heap.size+1,6,none⟩ (.slice D n3 k3) →
   W'.heap[w.heap.size+1]?=some (.cells #[.slice V m kv,.int .i64 l,.int .i64 u,.slice B n1 k1,.slice C n2 k2,.int .i64 each,.slice D n3 k3] 29 (0,0))∧AV W' w.heap.size (.slice V m kv) xs∧Below w.heap.size w W':=by
  rintro W' rfl;have sb:∀ (W:World) (i:Nat) (x:Value),Below w.heap.size w W→Below w.heap.size w (W.setCell ⟨w.heap.size+1,i,none⟩ x):=fun W i x h=>h.setCell (show w.heap.size≤w.heap.size+1 by omega) x
  have r0:AV w3 w.heap.size (.slice V m kv) xs:=hr.out.1.mono hr.out.2;have h0:=b2.out;have h1:=Bs h0 0 (.slice V m kv);have h2:=Bs h1 1 (.int .i64 l);have h3:=Bs h2 2 (.int .i64 u);have h4:=Bs h3 3 (.slice B n1 k1);have h5:=Bs h4 4 (.slice C n2 k2);have h6:=Bs h5 5 (.int .i64 each);exact⟨Bs h6 6 (.slice D n3 k3),Rs (Rs (Rs (Rs (Rs (Rs (Rs r0 h0 (by decide) 0 _) h1 (by decide) 1 _) h2 (by decide) 2 _) h3 (by decide) 3 _) h4 (by decide) 4 _) h5 (by decide) 5 _) h6 (by decide) 6 _,
   sb _ _ _ (sb _ _ _ (sb _ _ _ (sb _ _ _ (sb _ _ _ (sb _ _ _ (sb _ _ _ hB0.out))))))⟩
 replace fin:=Az fin;clear hB0 b2 hr hS3;refine Ab (rs:=[12]) (by kernel_rfl) (by simp) ?_;refine Aa.cons (Ac rfl) (fun K hK=>?_) Aa.nil;go_simp
 go_wp2_with fail
 refine hK.out _ _ (fun h=>by cases h) (fun _=>?_);try simp only[Act.put,Sa,Sb,Sc]
 refine AL (by kernel_rfl) ?_ _;go_wp2;obtain⟨g1,g2,g3⟩:=fin.out _ rfl;refine bodyPost_ret (results_cell_row rfl _ _ (w.heap.size+1) 29 #[.slice V m kv,.int .i64 l,.int .i64 u,.slice B n1 k1,.slice C n2 k2,.int .i64 each,.slice D n3 k3] (0,0) _ rfl g1 Tryz.underlying29 rfl (by kernel_rfl)) rfl ⟨_,rfl,g2,g3⟩
def DS(w:World)(e:Ending)(W:World):Prop :=
 e=.returned (.tuple #[.agg #[.slice none 0 0,.int .i64 0,.int .i64 0,.slice none 0 0,.slice none 0 0,.int .i64 0,.slice none 0 0],.int .i64 5])∧Below w.heap.size w W
theorem Jl:(Tryz.prog.info? 45).map (fun i=>(i.zero,i.size,i.bytes))=some (some (.int .u32 0),1,4):=by kernel_rfl
theorem G2(k:Nat)(hk:k≤1000000):∃ cs:Array Value,cs.size=k∧(∀ j,j<k→cs[j]?=some (.int .u32 0)) ∧
  ∀ W,(Instr.makeSlice 27 (.int .i64 (k:Int)) (.int .i64 (k:Int))).run Tryz.prog W=.ok (.slice (some ⟨W.heap.size,0,none⟩) k k) (W.alloc (.cells cs 45)):=by
 obtain⟨i9,hi,hz0,hz1,hz2⟩:=info_parts Jl;refine⟨madeCells (Value.int .u32 0).cells (k*1),by rw[size_madeCells,Nat.mul_one],fun j hj=>?_,fun W=>?_⟩
 ·simp[madeCells,Value.cells,hj,Nat.mod_one]
 ·have:=run_makeSlice (P:=Tryz.prog) W 27 45 i9 (.int .u32 0) Tryz.underlying27 hi hz0 .i64 .i64 (k:Int) (k:Int) (by omega) (Int.le_refl _) (by rw[hz1];simp;omega) (by rw[hz2];omega) (by omega);rw[hz1]at this
  simpa using this
structure SpB (w W:World) (N p:Nat) (B C D:Option Addr) (n1 n2 n3 k1 k2 k3:Nat) (each:Int):Prop where
 b:Below N w W
 c:W.heap[N]?=some (.cells #[.slice none 0 0,.int .i64 0,.int .i64 0,.slice none 0 0,.slice none 0 0,.int .i64 0,.slice none 0 0] 37 (0,0))
 q:W.heap[p]?=some (.cells #[.slice none 0 0,.int .i64 0,.int .i64 0,.slice B n1 k1,.slice C n2 k2,.int .i64 each,.slice D n3 k3] 37 (0,0))
 ne:N<p
theorem BN.mono{W:World}{base base':Nat}{v:Value}{xs:List In}(h:BN W base v xs)(hb:base'≤base):BN W base' v xs:=by
 obtain⟨h1,h2⟩:=h;refine⟨h1,?_⟩;rcases h2 with h0 |⟨g,cap,cur,e,hg,r⟩
 ·exact .inl h0
 ·exact .inr ⟨g,cap,cur,e,Nat.le_trans hb hg,r⟩
theorem Dl{w W:World}{N:Nat}(hb:Below N w W)(h:W.heap[N]?=some (.cells #[.slice none 0 0,.int .i64 0,.int .i64 0,.slice none 0 0,.slice none 0 0,.int .i64 0,.slice none 0 0] 37 (0,0))):∀ W',
  W'=((((((W.setCell ⟨N,0,none⟩ (.slice none 0 0)).setCell ⟨N,1,none⟩ (.int .i64 0)).setCell ⟨N,2,none⟩ (.int .i64 0)).setCell ⟨N,3,none⟩ (.slice none 0 0)).setCell ⟨N,4,none⟩ (.slice none 0 0)).setCell ⟨N,5,none⟩ (.int .i64 0)).setCell ⟨N,6,none⟩ (.slice none 0 0) →
  W'.heap[N]?=some (.cells #[.slice none 0 0,.int .i64 0,.int .i64 0,.slice none 0 0,.slice none 0 0,.int .i64 0,.slice none 0 0] 37 (0,0))∧Below N w W':=by
 rintro W' rfl;have sb:∀ (W:World) (i:Nat) (x:Value),Below N w W→Below N w (W.setCell ⟨N,i,none⟩ x):=fun W i x h=>h.setCell (Nl _) x
 exact⟨Bs (Bs (Bs (Bs (Bs (Bs (Bs h 0 _) 1 _) 2 _) 3 _) 4 _) 5 _) 6 _,sb _ _ _ (sb _ _ _ (sb _ _ _ (sb _ _ _ (sb _ _ _ (sb _ _ _ (sb _ _ _ hb))))))⟩
section
variable {w W W1:World} {N p:Nat} {B C D:Option Addr} {n1 n2 n3 k1 k2 k3:Nat} {each:Int}
theorem SpB.keep(h:SpB w W N p B C D n1 n2 n3 k1 k2 k3 each)(hb:Below W.heap.size W W1):SpB w W1 N p B C D n1 n2 n3 k1 k2 k3 each :=
 ⟨h.b.trans (hb.mono (Nat.le_of_lt (Bl h.c))),Bk hb h.c,Bk hb h.q,h.ne⟩
theorem SpB.fin(h:SpB w W N p B C D n1 n2 n3 k1 k2 k3 each){va:Value}{xs:List In}(l u:Int)(hr:BN W N va xs):∀ W',
  W'=(((((((((W.setCell ⟨p,0,none⟩ va).setCell ⟨p,1,none⟩ (.int .i64 l)).setCell ⟨p,2,none⟩ (.int .i64 u)).setCell ⟨N,0,none⟩ va).setCell ⟨N,1,none⟩ (.int .i64 l)).setCell ⟨N,2,none⟩ (.int .i64 u)).setCell ⟨N,3,none⟩ (.slice B n1 k1)).setCell ⟨N,4,none⟩ (.slice C n2 k2)).setCell ⟨N,5,none⟩ (.int .i64 each)).setCell ⟨N,6,none⟩ (.slice D n3 k3) →
  W'.heap[N]?=some (.cells #[va,.int .i64 l,.int .i64 u,.slice B n1 k1,.slice C n2 k2,.int .i64 each,.slice D n3 k3] 37 (0,0))∧BN W' N va xs∧Below N w W':=by
 rintro W' rfl;have hne:=h.ne;have sb:∀ (W:World) (g i:Nat) (x:Value),N≤g→Below N w W→Below N w (W.setCell ⟨g,i,none⟩ x):=fun W g i x hg h=>h.setCell (show N≤g from hg) x
 have far:∀ {W:World} {i:Nat} {o:Obj} (v:Value),W.heap[N]?=some o→(W.setCell ⟨p,i,none⟩ v).heap[N]?=some o:=fun v hj=>(Below.heap_setCell _ ⟨_,_,none⟩ v _ (show N≠p by omega)).trans hj
 have p0:=h.q;have p1:=Bs p0 0 va;have p2:=Bs p1 1 (.int .i64 l);have n0:=far (i:=2) (.int .i64 u) (far (i:=1) (.int .i64 l) (far (i:=0) va h.c));have m1:=Bs n0 0 va;have m2:=Bs m1 1 (.int .i64 l);have m3:=Bs m2 2 (.int .i64 u);have m4:=Bs m3 3 (.slice B n1 k1);have m5:=Bs m4 4 (.slice C n2 k2);have m6:=Bs m5 5 (.int .i64 each);have r3:=Rs (Rs (Rs hr p0 (by decide) 0 va) p1 (by decide) 1 (.int .i64 l)) p2 (by decide) 2 (.int .i64 u);have r6:=Rs (Rs (Rs r3 n0 (by decide) 0 va) m1 (by decide) 1 (.int .i64 l)) m2 (by decide) 2 (.int .i64 u);have b3:=sb _ p 2 (.int .i64 u) (by omega) (sb _ p 1 (.int .i64 l) (by omega) (sb _ p 0 va (by omega) h.b));have b6:=sb _ N 2 (.int .i64 u) (by omega) (sb _ N 1 (.int .i64 l) (by omega) (sb _ N 0 va (by omega) b3));exact⟨Bs m6 6 (.slice D n3 k3),Rs (Rs (Rs (Rs r6 m3 (by decide) 3 _) m4 (by decide) 4 _) m5 (by decide) 5 _) m6 (by decide) 6 _,
  sb _ N 6 _ (by omega) (sb _ N 5 _ (by omega) (sb _ N 4 _ (by omega) (sb _ N 3 _ (by omega) b6)))⟩
end
def P5(W5:World)(p q:Nat)(va sa ia ra vb sb ib rb:Value)(l u ea eb:Int)(W:World):Prop :=
 Ai (Below W5.heap.size W5 W) ∧
 (W.cell? ⟨p,0,none⟩=some va∧W.cell? ⟨p,1,none⟩=some (.int .i64 l)∧W.cell? ⟨p,2,none⟩=some (.int .i64 u)∧W.cell? ⟨p,3,none⟩=some sa∧W.cell? ⟨p,4,none⟩=some ia∧W.cell? ⟨p,5,none⟩=some (.int .i64 ea)∧W.cell? ⟨p,6,none⟩=some ra) ∧
 (W.cell? ⟨q,0,none⟩=some vb∧W.cell? ⟨q,1,none⟩=some (.int .i64 l)∧W.cell? ⟨q,2,none⟩=some (.int .i64 u)∧W.cell? ⟨q,3,none⟩=some sb∧W.cell? ⟨q,4,none⟩=some ib∧W.cell? ⟨q,5,none⟩=some (.int .i64 eb)∧W.cell? ⟨q,6,none⟩=some rb)
theorem Du{W5 W W1:World}{p q:Nat}{va sa ia ra vb sb ib rb:Value}{l u ea eb:Int}(hb:Below W.heap.size W W1)(h:P5 W5 p q va sa ia ra vb sb ib rb l u ea eb W):P5 W5 p q va sa ia ra vb sb ib rb l u ea eb W1 :=
 ⟨⟨h.1.out.trans (hb.mono h.1.out.size)⟩,EG hb h.2.1,EG hb h.2.2⟩
theorem Gc:∀ (a rest:List UInt8),(10:UInt8)∉a→AH (a++10::rest)=(a++[10])::AH rest
 |[],rest,_=>by rw[List.nil_append,AH,if_pos rfl];rfl
 |c::a,rest,h=>by
  have hc:¬c=10:=fun e=>h (by rw[e];exact List.mem_cons_self ..)
  rw[List.cons_append,AH,if_neg hc,Gc a rest (fun hm=>h (List.mem_cons_of_mem _ hm))];rfl
theorem GK:∀ (a:List UInt8),(10:UInt8)∉a→a≠[]→AH a=[a]
 |[],_,h=>absurd rfl h
 |[c],h,_=>by
  have hc:¬c=10:=fun e=>h (by rw[e];exact List.mem_cons_self ..)
  rw[AH,if_neg hc];rfl
 |c::d::a,h,_=>by
  have hc:¬c=10:=fun e=>h (by rw[e];exact List.mem_cons_self ..)
  rw[AH,if_neg hc,GK (d::a) (fun hm=>h (List.mem_cons_of_mem _ hm)) (by simp)]
theorem getD_eq{α:Type}{l:List α}{i:Nat}(h:i<l.length)(d:α):l.getD i d=l[i]:=by simp[List.getD_eq_getElem?_getD,List.getElem?_eq_getElem h]
theorem Lc{t:List UInt8}{f i:Nat}{n:Int}{x:Src}(hi:i<t.length)(hf:f≤i)(h10:t.getD i 0=10)(hno:(10:UInt8)∉(t.drop f).take (i-f)) :
  DG (AH (t.drop f)) n x=if (CH x ((t.drop f).take (i-f)) (n+1)).2=0 then DG (AH (t.drop (i+1))) (n+1) (CH x ((t.drop f).take (i-f)) (n+1)).1 else (x,n+1,(CH x ((t.drop f).take (i-f)) (n+1)).2):=by
 have e:t.drop f=(t.drop f).take (i-f)++10::t.drop (i+1):=by
  conv=>lhs;rw[←List.take_append_drop (i-f) (t.drop f)]
  rw[List.drop_drop,show f+(i-f)=i by omega,List.drop_eq_getElem_cons hi,←getD_eq hi 0,h10]
 have e2:AH (t.drop f)=((t.drop f).take (i-f)++[10])::AH (t.drop (i+1)):=by
  conv=>lhs;rw[e]
  rw[Gc _ _ hno]
 rw[e2,DG,if_neg (by simp),List.dropLast_concat]
theorem LY{t:List UInt8}{f:Nat}{n:Int}{x:Src}(hno:(10:UInt8)∉t.drop f):DG (AH (t.drop f)) n x=if f<t.length then (x,n+1,8) else (x,n,0):=by
 by_cases h:f<t.length
 ·have hne:t.drop f≠[]:=fun e=>by have:=congrArg List.length e;simp at this;omega
  rw[if_pos h,GK _ hno hne,DG,if_pos];intro e;exact hno (List.mem_of_getLast? e)
 ·rw[if_neg h,List.drop_eq_nil_of_le (by omega)];rfl
theorem Ld{t:List UInt8}{f i:Nat}(hi:i<t.length)(hf:f≤i)(h10:t.getD i 0≠10)(hno:(10:UInt8)∉(t.drop f).take (i-f)):(10:UInt8)∉(t.drop f).take (i+1-f):=by
 have hd:(t.drop f)[i-f]?=some (t.getD i 0):=by rw[List.getElem?_drop,show f+(i-f)=i by omega,List.getElem?_eq_getElem hi,getD_eq hi]
 rw[show i+1-f=(i-f)+1 by omega,List.take_add_one,hd];intro h;rcases List.mem_append.1 h with h |h
 ·exact hno h
 ·have h':(10:UInt8)=t.getD i 0:=by simpa using h
  exact h10 h'.symm
theorem Jh(s:List UInt8)(h:(Cv s).2.2=true):(Cv s).2.1.length≤16:=by
 unfold Cv at h ⊢;dsimp only at h ⊢;split
 ·rename_i hc
  have:=hc.2.2;simp only[B8,Bool.and_eq_true,decide_eq_true_eq]at this;exact this.1.1.2
 ·split<;>simp
theorem LU{x:Src}{m:Nat}(h:Fw x m)(s:List UInt8)(n:Int):Fw (CH x s n).1 (m+1):=by
 obtain⟨h1,h2,h3,h4,h5⟩:=h;unfold CH;by_cases c1:s.getLast?=some 58∧B8 s.dropLast=true
 ·rw[if_pos c1];by_cases c2:GC x.labels s.dropLast=true
  ·rw[if_pos c2];exact⟨h1,h2,h3,Nat.le_succ_of_le h4,h5⟩
  ·rw[if_neg c2];exact⟨h1,h2,h3,by simp;omega,h5⟩
 ·rw[if_neg c1];by_cases c3:(Cv s).2.2=false
  ·rw[if_pos c3];exact⟨h1,h2,h3,Nat.le_succ_of_le h4,h5⟩
  ·rw[if_neg c3];by_cases c4:64≤x.l.length
   ·rw[if_pos c4];exact⟨h1,h2,h3,Nat.le_succ_of_le h4,h5⟩
   ·rw[if_neg c4];refine⟨by simp[h1],by simp[h2],by simp;omega,Nat.le_succ_of_le h4,fun y hy=>?_⟩;rcases List.mem_append.1 hy with hy |hy
    ·exact h5 y hy
    ·rw[List.mem_singleton.1 hy];exact Jh _ (by simpa using c3)
structure RX (w W:World) (N:Nat) (v0 vl vn vr:Value) (l:List In) (names:List (List UInt8)) (rows:List Int) (labels:List (List UInt8×Nat)):Prop where
 b:Below N w W
 c2:W.heap[N]?=some (.cells #[.slice none 0 0,.int .i64 0,.int .i64 0] 25 (0,0))
 c5:W.heap[N+1]?=some (.cells #[v0,.int .i64 0,.int .i64 0] 25 (0,0))
 q0:AV W N v0 l
 q1:Dk W N vn names
 q2:B6 W N vr rows
 q3:Ey W N vl labels
section
variable {w W W1:World} {N:Nat} {v0 vl vn vr u:Value} {l:List In} {names:List (List UInt8)} {rows:List Int} {labels:List (List UInt8×Nat)} {i:In} {z:List UInt8} {n:Int} {p:List UInt8×Nat}
theorem RX.hz(h:RX w W N v0 vl vn vr l names rows labels):N≤W.heap.size:=Nat.le_of_lt (Bl h.c2)
theorem RX.keep(h:RX w W N v0 vl vn vr l names rows labels)(hb:Below W.heap.size W W1):RX w W1 N v0 vl vn vr l names rows labels :=
 ⟨h.b.trans (hb.mono h.hz),Bk hb h.c2,Bk hb h.c5,Om h.q0 (fun k hk=>hb.block k (Ol h.q0 k hk)),Om h.q1 (fun k hk=>hb.block k (Ol h.q1 k hk)),h.q2.keep hb,h.q3.keep hb⟩
theorem RX.a3(h:RX w W N v0 vl vn vr l names rows labels)(hr:Ey W1 N u (labels++[p]))(hg:W.grownBy W1 vl.ownBlock):RX w W1 N v0 u vn vr l names rows (labels++[p]) :=
 ⟨h.b.grown hg h.hz (fun k hk=>Ob h.q3 k hk),Bg h.c2 hg (Oa h.q3 h.c2 (by decide)),Bg h.c5 hg (Oa h.q3 h.c5 (by decide)),BP h.q0 h.q3 (by decide) hg,BP h.q1 h.q3 (by decide) hg,BP h.q2 h.q3 (by decide) hg,hr⟩
theorem RX.a1(h:RX w W N v0 vl vn vr l names rows labels)(hr:Dk W1 N u (names++[z]))(hg:W.grownBy W1 vn.ownBlock):RX w W1 N v0 vl u vr l (names++[z]) rows labels :=
 ⟨h.b.grown hg h.hz (fun k hk=>Ob h.q1 k hk),Bg h.c2 hg (Oa h.q1 h.c2 (by decide)),Bg h.c5 hg (Oa h.q1 h.c5 (by decide)),BP h.q0 h.q1 (by decide) hg,hr,BP h.q2 h.q1 (by decide) hg,BP h.q3 h.q1 (by decide) hg⟩
theorem RX.a2(h:RX w W N v0 vl vn vr l names rows labels)(hr:B6 W1 N u (rows++[n]))(hg:W.grownBy W1 vr.ownBlock):RX w W1 N v0 vl vn u l names (rows++[n]) labels :=
 ⟨h.b.grown hg h.hz (fun k hk=>Ob h.q2 k hk),Bg h.c2 hg (Oa h.q2 h.c2 (by decide)),Bg h.c5 hg (Oa h.q2 h.c5 (by decide)),BP h.q0 h.q2 (by decide) hg,BP h.q1 h.q2 (by decide) hg,hr,BP h.q3 h.q2 (by decide) hg⟩
theorem RX.a0(h:RX w W N v0 vl vn vr l names rows labels)(hr:AV W1 N u (l++[i]))(hg:W.grownBy W1 v0.ownBlock):RX w (W1.setCell ⟨N+1,0,none⟩ u) N u vl vn vr (l++[i]) names rows labels:=by
 have hc5:=Bg h.c5 hg (Oa h.q0 h.c5 (by decide));have hc2:=Bg h.c2 hg (Oa h.q0 h.c2 (by decide));exact⟨(h.b.grown hg h.hz (fun k hk=>Ob h.q0 k hk)).setCell (show N≤N+1 by omega) u,Ba hc2 (show N≠N+1 by omega) u,Bs hc5 0 u,Rs hr hc5 (by decide) 0 u,Rs (BP h.q1 h.q0 (by decide) hg) hc5 (by decide) 0 u,Rs (BP h.q2 h.q0 (by decide) hg) hc5 (by decide) 0 u,Rs (BP h.q3 h.q0 (by decide) hg) hc5 (by decide) 0 u⟩
end
theorem RX.start(w:World):RX w ((w.alloc (.cells #[.slice none 0 0,.int .i64 0,.int .i64 0] 25)).alloc (.cells #[.slice none 0 0,.int .i64 0,.int .i64 0] 25)) w.heap.size (.slice none 0 0) (.slice none 0 0) (.slice none 0 0) (.slice none 0 0) [] [] [] [] :=
 ⟨((Below.refl w.heap.size w).alloc (Nl _) _).alloc (by simp) _,As (Bv w _) _,Cx w _ _,.nil _ _,.nil _ _,.nil _ _,.nil _ _⟩
theorem BY{W:World}{base n size:Nat}{e:TypeId}{v:Value}{xs:List Value}(h:W.ownsRow base e size v n xs):∃ A c,v=.slice A n c:=by
 rcases h.2 with ⟨rfl,h0⟩ |⟨g,cap,cur,rfl,_⟩
 ·exact⟨none,0,by rw[h0]⟩
 ·exact⟨_,_,rfl⟩
section
variable {w W W1:World} {N:Nat} {v0 vl vn vr u:Value} {l:List In} {names:List (List UInt8)} {rows:List Int} {labels:List (List UInt8×Nat)} {i:In} {s:List UInt8} {n:Int} {p:List UInt8×Nat}
theorem RX.facts(h:RX w W N v0 vl vn vr l names rows labels):W.cell? ⟨N,0,none⟩=some (.slice none 0 0)∧W.cell? ⟨N,1,none⟩=some (.int .i64 0)∧W.cell? ⟨N,2,none⟩=some (.int .i64 0)∧W.frozen? ⟨N,0,none⟩=false∧W.frozen? ⟨N,1,none⟩=false∧W.frozen? ⟨N,2,none⟩=false∧N<W.heap.size :=
 ⟨(Bc h.c2 0).trans rfl,(Bc h.c2 1).trans rfl,(Bc h.c2 2).trans rfl,Bf h.c2 0,Bf h.c2 1,Bf h.c2 2,Bl h.c2⟩
theorem RX.FI(h:RX w W N v0 vl vn vr l names rows labels):W.cell? ⟨N+1,0,none⟩=some v0∧W.cell? ⟨N+1,1,none⟩=some (.int .i64 0)∧W.cell? ⟨N+1,2,none⟩=some (.int .i64 0)∧W.frozen? ⟨N+1,0,none⟩=false∧W.frozen? ⟨N+1,1,none⟩=false∧W.frozen? ⟨N+1,2,none⟩=false∧N+1<W.heap.size :=
 ⟨(Bc h.c5 0).trans rfl,(Bc h.c5 1).trans rfl,(Bc h.c5 2).trans rfl,Bf h.c5 0,Bf h.c5 1,Bf h.c5 2,Bl h.c5⟩
theorem RX.LV(h:RX w W N v0 vl vn vr l names rows labels)(a b c:Value):∀ W',W'=((W.setCell ⟨N,0,none⟩ a).setCell ⟨N,1,none⟩ b).setCell ⟨N,2,none⟩ c →
  W'.heap[N]?=some (.cells #[a,b,c] 25 (0,0))∧Below N w W':=by
 rintro W' rfl;exact⟨Bs (Bs (Bs h.c2 0 a) 1 b) 2 c,((h.b.setCell (Nl _) _).setCell (Nl _) _).setCell (Nl _) _⟩
end
theorem Lb{t:List UInt8}{x:Src}{n e:Int}(h:DG (AH t) 0 Src.zero=(x,n,e))(he:e≠0):An t=(Pg.zero,n,e):=by
 unfold An;rw[h];dsimp only;rw[if_pos he]
theorem KD(l:List UInt8)(q:Nat)(hq:l.length=q+1)(W:World):(Instr.slice 9 (.string ⟨l.toArray⟩) none (some (.int .i64 (q:Int))) none).run Tryz.prog W=.ok (.string ⟨l.dropLast.toArray⟩) W:=by
 have hz:(⟨l.toArray⟩:ByteArray).size=l.length:=by simp[ByteArray.size]
 rw[run_slice_string_h W 9 ⟨l.toArray⟩ Tryz.underlying9 .i64 (q:Int) (by omega) (by rw[hz];omega),C5,List.dropLast_eq_take,hq];simp
theorem IY(l:List UInt8)(q:Nat)(hq:l.length=q+1):(⟨l.toArray⟩:ByteArray).extract 0 q=⟨l.dropLast.toArray⟩:=by
 rw[C5,List.dropLast_eq_take,hq];simp
theorem Nv(l:List UInt8)(q:Nat)(hq:l.length=q+1):l.getLast?=some (l.getD q 0):=by
 rw[List.getLast?_eq_getElem?,hq,List.getElem?_eq_getElem (by omega),getD_eq (by omega)];rfl
section
variable {ops:Array Oper} {o:Oper} {a:Act} {K:Act→World→Prop} {Q:Exit→Act→World→Prop} {E:Prop} {W:World}
theorem LW(hgd:o.guard=none)(x:Operand)(ho:o.op=.buildSlice 109 1 #[(0,x)])(s:List UInt8)(k:Nat)(hx:a.eval x=.agg #[.string ⟨s.toArray⟩,.int .i64 (k:Int)])
  (h:∀ g W1,Below W.heap.size W W1→W1.heap[g]?=some (.cells #[.string ⟨s.toArray⟩,.int .i64 (k:Int)] 112 (0,0))→K (a.put o.dst (.slice (some ⟨g,0,none⟩) 1 1)) W1) :
  if Region.wanted o (yielded ops a.tmps)=true then Oper.wp Tryz.prog o a W K Q else E:=by
 rw[if_pos (by simp[Region.wanted,hgd])];obtain⟨i9,hi,hz0,hz1,hz2⟩:=info_parts KJ;refine wp_buildSlice 109 112 1 _ ho #[.string ⟨s.toArray⟩,.int .i64 (k:Int)] i9 (.agg #[.string ⟨#[]⟩,.int .i64 0]) Tryz.underlying109 hi hz0 (by rw[hz1];decide) (by rw[hz1];decide) ?_ (h _ _ (Bw W _) (Bv _ _));rw[hz1];simp only[List.map_toArray,List.map_cons,List.map_nil,hx]
 kernel_rfl
theorem LX(hgd:o.guard=none)(s x:Operand)(ho:o.op=.call {callee:=.builtin .append,args:=#[s,x],argTypes:=#[109,109]})
  (base g:Nat)(y:List UInt8×Nat)(v:Value)(xs:List (List UInt8×Nat))(hs:a.eval s=v)(hr:Ey W base v xs)(hx:a.eval x=.slice (some ⟨g,0,none⟩) 1 1)
  (hy:W.heap[g]?=some (.cells #[.string ⟨y.1.toArray⟩,.int .i64 (y.2:Int)] 112 (0,0)))(hl:xs.length≤1000000)(hb:base≤W.heap.size)
  (h:∀ v' W1,Ey W1 base v' (xs++[y])→W.grownBy W1 v.ownBlock→(v'.ownBlock=v.ownBlock∨v'.ownBlock=some W.heap.size)→K (a.put o.dst v') W1) :
  if Region.wanted o (yielded ops a.tmps)=true then Oper.wp Tryz.prog o a W K Q else E:=by
 obtain⟨i9,hi,hz0,hz1,hz2⟩:=info_parts KJ;refine EC hgd s x 109 ho base 112 i9 (.agg #[.string ⟨#[]⟩,.int .i64 0]) 2 24 Tryz.underlying109 hi hz0 hz1 hz2 rfl (by decide) v xs.length (Ds xs) hs hr g #[.string ⟨y.1.toArray⟩,.int .i64 (y.2:Int)] (0,0) hx hy rfl ?_ hl (by decide) hb ?_
 ·simp[Value.oneCell']
 ·intro v' W1 h1 h2 h4;refine h v' W1 ?_ h2 h4;unfold Ey;rw[F1,List.length_append];exact h1
end
def E5(x:Src)(k:Nat)(done:List In):List In ⊕ Int :=
 match ED x.labels x.l.length (x.l.drop k) (x.names.drop k) (x.rows.drop k) with
 |.inl r=>.inl (done++r)
 |.inr e=>.inr e
theorem Kk(x:Src):E5 x 0 []=ED x.labels x.l.length x.l x.names x.rows:=by
 unfold E5;simp only[List.drop_zero,List.nil_append];cases ED x.labels x.l.length x.l x.names x.rows<;>rfl
theorem Lf(x:Src)(k:Nat)(done:List In)(h:x.l.length≤k):E5 x k done=.inl done:=by
 unfold E5;rw[List.drop_eq_nil_of_le h];simp[ED]
theorem JX{x:Src}{k:Nat}{done:List In}(h:k<x.l.length)(h1:x.names.length=x.l.length)(h2:x.rows.length=x.l.length) :
  E5 x k done=if x.names.getD k []=[] then E5 x (k+1) (done++[x.l.getD k In.zero]) else
   if BD x.labels (x.names.getD k []) x.l.length<0 then .inr (x.rows.getD k 0) else E5 x (k+1) (done++[{x.l.getD k In.zero with q:=BD x.labels (x.names.getD k []) x.l.length}]):=by
 unfold E5;rw[Cf x.l k In.zero h,Cf x.names k [] (by omega),Cf x.rows k 0 (by omega)];simp only[ED];by_cases hs:x.names.getD k []=[]
 ·rw[if_pos hs,if_pos hs];cases ED x.labels x.l.length (x.l.drop (k+1)) (x.names.drop (k+1)) (x.rows.drop (k+1))<;>simp
 ·rw[if_neg hs,if_neg hs];by_cases hf:BD x.labels (x.names.getD k []) x.l.length<0
  ·rw[if_pos hf,if_pos hf]
  ·rw[if_neg hf,if_neg hf];cases ED x.labels x.l.length (x.l.drop (k+1)) (x.names.drop (k+1)) (x.rows.drop (k+1))<;>simp
theorem Nw{t:List UInt8}{x:Src}{n:Int}(h:DG (AH t) 0 Src.zero=(x,n,0)):An t=match E5 x 0 []with
  |.inr e=>(Pg.zero,e,10)
  |.inl k=>if BD x.labels [108,111,99,107] x.l.length<0∨BD x.labels [117,110,108,111,99,107] x.l.length<0 then (Pg.zero,0,10)
   else (⟨k,BD x.labels [108,111,99,107] x.l.length,BD x.labels [117,110,108,111,99,107] x.l.length⟩,0,0):=by
 unfold An;rw[h,Kk];dsimp only;rw[if_neg (by simp)];cases ED x.labels x.l.length x.l x.names x.rows<;>rfl
theorem AV.OR{W:World}{base k n c g:Nat}{xs:List In}(h:AV W base (.slice (some ⟨g,0,none⟩) n c) xs)(hk:k<xs.length)(q:Int) :
  AV (W.setCell ⟨g,k*8+7,none⟩ (.int .i64 q)) base (.slice (some ⟨g,0,none⟩) n c) (xs.set k {xs.getD k In.zero with q:=q}):=by
 obtain⟨h1,h2⟩:=h;rcases h2 with ⟨h0,_⟩ |⟨g',cap,cur,h0,hb,hg,hc,hm,hs,ht⟩
 ·cases h0
 ·cases h0;refine⟨by rw[Gd,List.length_set],.inr ⟨g,c,_,by rw[List.length_set],hb,Bs hg (k*8+7) _,by rw[List.length_set];exact hc,hm,by simpa using hs,?_⟩⟩;rw[List.length_set,←EE xs k q hk,←ht];simp[List.take_set]
section
variable {w W W1:World} {N:Nat} {v0 vl vn vr u:Value} {l:List In} {names:List (List UInt8)} {rows:List Int} {labels:List (List UInt8×Nat)} {i:In} {s:List UInt8} {n:Int} {p:List UInt8×Nat}
theorem RX.Le{g m c k:Nat}(h:RX w W N (.slice (some ⟨g,0,none⟩) m c) vl vn vr l names rows labels)(hk:k<l.length)(q:Int) :
  RX w (W.setCell ⟨g,k*8+7,none⟩ (.int .i64 q)) N (.slice (some ⟨g,0,none⟩) m c) vl vn vr (l.set k {l.getD k In.zero with q:=q}) names rows labels:=by
 obtain⟨cells,hc⟩:=Cg h.q0 g rfl;have hg:N≤g:=Ob h.q0 g rfl;have hn2:N≠g:=fun e=>by have:=h.c2;rw[e,hc]at this;cases this
 have hn5:N+1≠g:=fun e=>by have:=h.c5;rw[e,hc]at this;cases this
 have off:∀ {e:TypeId} {size m:Nat} {v:Value} {xs:List Value},W.ownsRow N e size v m xs→e≠114→(W.setCell ⟨g,k*8+7,none⟩ (.int .i64 q)).ownsRow N e size v m xs:=fun hr hne =>
  Om hr fun j hj=>Below.heap_setCell W ⟨g,k*8+7,none⟩ _ _ (fun e=>Oa hr hc hne (by rw[hj,←show j=g from e]))
 exact⟨h.b.setCell (show N≤g from hg) _,Ba h.c2 (show N≠g from hn2) _,Ba h.c5 (show N+1≠g from hn5) _,h.q0.OR hk q,off h.q1 (by decide),off h.q2 (by decide),off h.q3 (by decide)⟩
theorem RX.S(h:RX w W N v0 vl vn vr l names rows labels):Ai (RX w W N v0 vl vn vr l names rows labels)∧W.cell? ⟨N+1,0,none⟩=some v0:=⟨⟨h⟩,h.FI.1⟩
end
theorem Nx{w W W1:World}{N:Nat}{v0 vl vn vr:Value}{l:List In}{names:List (List UInt8)}{rows:List Int}{labels:List (List UInt8×Nat)}{a b:Addr}{y z:Value}(hb:Below W.heap.size W W1)(h:Ai (RX w W N v0 vl vn vr l names rows labels)∧W.cell? a=some y∧W.cell? b=some z) :
 Ai (RX w W1 N v0 vl vn vr l names rows labels)∧W1.cell? a=some y∧W1.cell? b=some z:=⟨⟨h.1.out.keep hb⟩,Ck hb h.2.1,Ck hb h.2.2⟩
theorem Ja{w W W1:World}{N:Nat}{v0 vl vn vr:Value}{l:List In}{names:List (List UInt8)}{rows:List Int}{labels:List (List UInt8×Nat)}{a:Addr}{y:Value}(hb:Below W.heap.size W W1)(h:Ai (RX w W N v0 vl vn vr l names rows labels)∧W.cell? a=some y) :
 Ai (RX w W1 N v0 vl vn vr l names rows labels)∧W1.cell? a=some y:=⟨⟨h.1.out.keep hb⟩,Ck hb h.2⟩
theorem RX.lu{w W:World}{N:Nat}{v0 vl vn vr:Value}{l:List In}{names:List (List UInt8)}{rows:List Int}{labels:List (List UInt8×Nat)}(h:RX w W N v0 vl vn vr l names rows labels)(a b:Value):∀ W',W'=(W.setCell ⟨N+1,1,none⟩ a).setCell ⟨N+1,2,none⟩ b →
  Below N w W'∧W'.heap[N]?=some (.cells #[.slice none 0 0,.int .i64 0,.int .i64 0] 25 (0,0))∧W'.heap[N+1]?=some (.cells #[v0,a,b] 25 (0,0))∧AV W' N v0 l:=by
 rintro W' rfl;exact⟨(h.b.setCell (show N≤N+1 by omega) _).setCell (show N≤N+1 by omega) _,Ba (Ba h.c2 (show N≠N+1 by omega) _) (show N≠N+1 by omega) _,Bs (Bs h.c5 1 a) 2 b,Rs (Rs h.q0 h.c5 (by decide) 1 a) (Bs h.c5 1 a) (by decide) 2 b⟩
theorem Q5{W:World}{N g k:Nat}{y:Value}(hn:N≠g)(a b c:Value)(h:W.cell? ⟨g,k,none⟩=some y):(((W.setCell ⟨N,0,none⟩ a).setCell ⟨N,1,none⟩ b).setCell ⟨N,2,none⟩ c).cell? ⟨g,k,none⟩=some y :=
 (World.cell?_setCell_far _ ⟨N,2,none⟩ ⟨g,k,none⟩ c hn).trans ((World.cell?_setCell_far _ ⟨N,1,none⟩ ⟨g,k,none⟩ b hn).trans ((World.cell?_setCell_far W ⟨N,0,none⟩ ⟨g,k,none⟩ a hn).trans h))
theorem Ma{w W:World}{N:Nat}{x y z v0:Value}{l:List In}(hb:Below N w W)(hc:W.heap[N]?=some (.cells #[x,y,z] 25 (0,0)))(hr:AV W N v0 l)(a b c:Value):∀ W',W'=((W.setCell ⟨N,0,none⟩ a).setCell ⟨N,1,none⟩ b).setCell ⟨N,2,none⟩ c →
  W'.heap[N]?=some (.cells #[a,b,c] 25 (0,0))∧AV W' N v0 l∧Below N w W':=by
 rintro W' rfl;exact⟨Bs (Bs (Bs hc 0 a) 1 b) 2 c,Rs (Rs (Rs hr hc (by decide) 0 a) (Bs hc 0 a) (by decide) 1 b) (Bs (Bs hc 0 a) 1 b) (by decide) 2 c,((hb.setCell (Nl _) _).setCell (Nl _) _).setCell (Nl _) _⟩
end
end Go.Proofs.YtjjpiefgdggghaaGreatDoor

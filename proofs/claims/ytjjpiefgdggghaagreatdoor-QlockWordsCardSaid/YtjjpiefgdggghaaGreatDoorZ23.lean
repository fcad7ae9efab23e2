/- Parts: AsmMid, AsmAdd, Fair, RefFind. -/
import Derived.Test.YtjjpiefgdggghaaGreatDoorZ02
import Derived.Test.YtjjpiefgdggghaaGreatDoorZ22
import Derived.Test.YtjjpiefgdggghaaGreatDoorZ04
import Derived.Great.BuildSlice
import Derived.Deep.AppendLies
import Derived.Test.YtjjpiefgdggghaaGreatDoorZ10
import Derived.Test.YtjjpiefgdggghaaGreatDoorZ05
import Derived.Test.YtjjpiefgdggghaaGreatDoorZ11
set_option linter.unusedVariables false
set_option linter.unusedSimpArgs false
set_option maxRecDepth 100000
set_option maxHeartbeats 40000000
namespace Go.Proofs.YtjjpiefgdggghaaGreatDoor
section
open Go.RowKit Go.Proofs.YtjjpiefgdggghaaGreatDoorW.PrintWords
theorem AN.keep{W W1 W2:World}{base gx bm:Nat}{v0 v1 v2 u0 u1 u2:Value}(h:AN W W1 base gx bm v0 v1 v2 u0 u1 u2)(hb:Below W1.heap.size W1 W2)(hs:base≤W1.heap.size):AN W W2 base gx bm v0 v1 v2 u0 u1 u2 :=
 ⟨h.b.trans (hb.mono hs),fun k hk h1 h2 h3 h4 h5=>(hb.block k (Nat.lt_of_lt_of_le hk h.b.size)).trans (h.k k hk h1 h2 h3 h4 h5),h.n0,h.n1,h.n2⟩
theorem AN.Qm{W W1 W2:World}{base gx bm:Nat}{v0 v1 v2 u0 u1 u2 u:Value}(h:AN W W1 base gx bm v0 v1 v2 u0 u1 u2)(hg:W1.grownBy W2 u0.ownBlock)(ho:∀ k,u0.ownBlock=some k→base≤k)(ha:u.ownBlock=u0.ownBlock∨u.ownBlock=some W1.heap.size)(hs:base≤W1.heap.size):AN W W2 base gx bm v0 v1 v2 u u1 u2 :=
 ⟨h.b.grown hg hs ho,fun k hk h1 h2 h3 h4 h5=>(hg.block k (Nat.lt_of_lt_of_le hk h.b.size) (fun e=>(h.n0 k e.symm).elim (fun e'=>h3 e'.symm) (fun e'=>absurd hk (Nat.not_lt.2 e')))).trans (h.k k hk h1 h2 h3 h4 h5),
  fun k hk=>ha.elim (fun e=>h.n0 k (e▸hk)) (fun e=>.inr (by rw[e]at hk;cases hk;exact h.b.size)),h.n1,h.n2⟩
theorem AN.Qn{W W1 W2:World}{base gx bm:Nat}{v0 v1 v2 u0 u1 u2 u:Value}(h:AN W W1 base gx bm v0 v1 v2 u0 u1 u2)(hg:W1.grownBy W2 u1.ownBlock)(ho:∀ k,u1.ownBlock=some k→base≤k)(ha:u.ownBlock=u1.ownBlock∨u.ownBlock=some W1.heap.size)(hs:base≤W1.heap.size):AN W W2 base gx bm v0 v1 v2 u0 u u2 :=
 ⟨h.b.grown hg hs ho,fun k hk h1 h2 h3 h4 h5=>(hg.block k (Nat.lt_of_lt_of_le hk h.b.size) (fun e=>(h.n1 k e.symm).elim (fun e'=>h4 e'.symm) (fun e'=>absurd hk (Nat.not_lt.2 e')))).trans (h.k k hk h1 h2 h3 h4 h5),
  h.n0,fun k hk=>ha.elim (fun e=>h.n1 k (e▸hk)) (fun e=>.inr (by rw[e]at hk;cases hk;exact h.b.size)),h.n2⟩
theorem AN.Qo{W W1 W2:World}{base gx bm:Nat}{v0 v1 v2 u0 u1 u2 u:Value}(h:AN W W1 base gx bm v0 v1 v2 u0 u1 u2)(hg:W1.grownBy W2 u2.ownBlock)(ho:∀ k,u2.ownBlock=some k→base≤k)(ha:u.ownBlock=u2.ownBlock∨u.ownBlock=some W1.heap.size)(hs:base≤W1.heap.size):AN W W2 base gx bm v0 v1 v2 u0 u1 u :=
 ⟨h.b.grown hg hs ho,fun k hk h1 h2 h3 h4 h5=>(hg.block k (Nat.lt_of_lt_of_le hk h.b.size) (fun e=>(h.n2 k e.symm).elim (fun e'=>h5 e'.symm) (fun e'=>absurd hk (Nat.not_lt.2 e')))).trans (h.k k hk h1 h2 h3 h4 h5),
  h.n0,h.n1,fun k hk=>ha.elim (fun e=>h.n2 k (e▸hk)) (fun e=>.inr (by rw[e]at hk;cases hk;exact h.b.size))⟩
theorem AN.set{W W1:World}{base gx bm:Nat}{v0 v1 v2 u0 u1 u2:Value}(h:AN W W1 base gx bm v0 v1 v2 u0 u1 u2)(hg:base≤gx)(j:Nat)(x:Value):AN W (W1.setCell ⟨gx,j,none⟩ x) base gx bm v0 v1 v2 u0 u1 u2 :=
 ⟨h.b.setCell hg x,fun k hk h1 h2 h3 h4 h5=>(Below.heap_setCell W1 ⟨gx,j,none⟩ x k h1).trans (h.k k hk h1 h2 h3 h4 h5),h.n0,h.n1,h.n2⟩
structure Hv (W0 W:World) (base gx bm b:Nat) (o0 o1 o2 r0 r1 r2:Value) (l:List In) (names:List (List UInt8)) (rows:List Int) (L:List (List UInt8×Nat)) (i:In):Prop where
 s:W.heap[gx]?=some (.cells #[o0,o1,o2,.map (some bm)] 121 (0,0))
 e:W.heap[b]?=some (.cells i.cs 126 (0,0))
 q0:BN W base r0 l
 q1:Dk W base r1 names
 q2:B6 W base r2 rows
 m:DU W bm L
 gb:base≤gx
 bb:base≤bm
 n0:∀ k,r0.ownBlock=some k→k≠b
 K:AN W0 W base gx bm o0 o1 o2 r0 r1 r2
section
variable {W0 W W1:World} {base gx bm b:Nat} {o0 o1 o2 r0 r1 r2 u:Value} {l:List In} {names:List (List UInt8)} {rows:List Int} {L:List (List UInt8×Nat)} {i y:In} {z:List UInt8} {n:Int}
theorem Hv.OB(h:Hv W0 W base gx bm b o0 o1 o2 r0 r1 r2 l names rows L i):base≤W.heap.size:=Nat.le_trans h.gb (Nat.le_of_lt (Bl h.s))
theorem Hv.keep(h:Hv W0 W base gx bm b o0 o1 o2 r0 r1 r2 l names rows L i)(hb:Below W.heap.size W W1):Hv W0 W1 base gx bm b o0 o1 o2 r0 r1 r2 l names rows L i :=
 ⟨Bk hb h.s,Bk hb h.e,Om h.q0 (fun k hk=>hb.block k (Ol h.q0 k hk)),Om h.q1 (fun k hk=>hb.block k (Ol h.q1 k hk)),h.q2.keep hb,h.m.keep (hb.block bm h.m.lt),h.gb,h.bb,h.n0,h.K.keep hb h.OB⟩
theorem BP{W W1:World}{base n size n' size':Nat}{e e':TypeId}{v v':Value}{xs xs':List Value}(h:W.ownsRow base e size v n xs)(h':W.ownsRow base e' size' v' n' xs')(hne:e'≠e)(hg:W.grownBy W1 v'.ownBlock):W1.ownsRow base e size v n xs :=
 Om h fun k hk=>by
  obtain⟨cells,hc⟩:=Cg h k hk;exact hg.block k (Bl hc) (Oa h' hc hne)
theorem AB{W:World}{base n size:Nat}{e:TypeId}{v:Value}{xs:List Value}(h:W.ownsRow base e size v n xs):∃ A m c,v=.slice A m c:=by
 rcases h.2 with ⟨rfl,h0⟩ |⟨g,cap,cur,rfl,_⟩
 ·exact⟨_,_,_,rfl⟩
 ·exact⟨_,_,_,rfl⟩
theorem I7{W W1:World}{bm base n size:Nat}{e:TypeId}{v:Value}{xs:List Value}(h:DU W bm L)(h':W.ownsRow base e size v n xs)(hg:W.grownBy W1 v.ownBlock):DU W1 bm L :=
 h.keep (hg.block bm h.lt (fun e1=>by
  obtain⟨cells,hc⟩:=Cg h' bm e1.symm;exact h.ne hc rfl))
theorem Hv.a0(h:Hv W0 W base gx bm b o0 o1 o2 r0 r1 r2 l names rows L i)(hr:BN W1 base u (l++[y]))(hg:W.grownBy W1 r0.ownBlock)(ha:u.ownBlock=r0.ownBlock∨u.ownBlock=some W.heap.size):Hv W0 W1 base gx bm b o0 o1 o2 u r1 r2 (l++[y]) names rows L i :=
 ⟨Bg h.s hg (Oa h.q0 h.s (by decide)),Bg h.e hg (fun e=>h.n0 b e.symm rfl),hr,BP h.q1 h.q0 (by decide) hg,BP h.q2 h.q0 (by decide) hg,I7 h.m h.q0 hg,h.gb,h.bb,
  fun k hk=>ha.elim (fun e=>h.n0 k (e▸hk)) (fun e=>by rw[e]at hk;cases hk;exact Nat.ne_of_gt (Bl h.e)),h.K.Qm hg (fun k hk=>Ob h.q0 k hk) ha h.OB⟩
theorem Hv.a1(h:Hv W0 W base gx bm b o0 o1 o2 r0 r1 r2 l names rows L i)(hr:Dk W1 base u (names++[z]))(hg:W.grownBy W1 r1.ownBlock)(ha:u.ownBlock=r1.ownBlock∨u.ownBlock=some W.heap.size):Hv W0 W1 base gx bm b o0 o1 o2 r0 u r2 l (names++[z]) rows L i :=
 ⟨Bg h.s hg (Oa h.q1 h.s (by decide)),Bg h.e hg (Oa h.q1 h.e (by decide)),BP h.q0 h.q1 (by decide) hg,hr,BP h.q2 h.q1 (by decide) hg,I7 h.m h.q1 hg,h.gb,h.bb,h.n0,h.K.Qn hg (fun k hk=>Ob h.q1 k hk) ha h.OB⟩
theorem Hv.a2(h:Hv W0 W base gx bm b o0 o1 o2 r0 r1 r2 l names rows L i)(hr:B6 W1 base u (rows++[n]))(hg:W.grownBy W1 r2.ownBlock)(ha:u.ownBlock=r2.ownBlock∨u.ownBlock=some W.heap.size):Hv W0 W1 base gx bm b o0 o1 o2 r0 r1 u l names (rows++[n]) L i :=
 ⟨Bg h.s hg (Oa h.q2 h.s (by decide)),Bg h.e hg (Oa h.q2 h.e (by decide)),BP h.q0 h.q2 (by decide) hg,BP h.q1 h.q2 (by decide) hg,hr,I7 h.m h.q2 hg,h.gb,h.bb,h.n0,h.K.Qo hg (fun k hk=>Ob h.q2 k hk) ha h.OB⟩
theorem Rs{W:World}{base gx n size:Nat}{e t:TypeId}{cs:Array Value}{v:Value}{xs:List Value}(h:W.ownsRow base e size v n xs)(hs:W.heap[gx]?=some (.cells cs t (0,0)))(hne:e≠t)(j:Nat)(x:Value):(W.setCell ⟨gx,j,none⟩ x).ownsRow base e size v n xs :=
 Om h fun k hk=>Below.heap_setCell W ⟨gx,j,none⟩ x k (fun e1=>Oa h hs hne (by rw[hk];exact congrArg some e1.symm))
theorem Hv.set(h:Hv W0 W base gx bm b o0 o1 o2 r0 r1 r2 l names rows L i)(j:Nat)(x:Value) :
  BN (W.setCell ⟨gx,j,none⟩ x) base r0 l∧Dk (W.setCell ⟨gx,j,none⟩ x) base r1 names∧B6 (W.setCell ⟨gx,j,none⟩ x) base r2 rows∧DU (W.setCell ⟨gx,j,none⟩ x) bm L :=
 ⟨Rs h.q0 h.s (by decide) j x,Rs h.q1 h.s (by decide) j x,Rs h.q2 h.s (by decide) j x,h.m.keep (Below.heap_setCell W ⟨gx,j,none⟩ x bm (fun e=>h.m.ne h.s e.symm))⟩
theorem Hv.shut(h:Hv W0 W base gx bm b o0 o1 o2 r0 r1 r2 l names rows L i) :
  Cr (((W.setCell ⟨gx,0,none⟩ r0).setCell ⟨gx,1,none⟩ r1).setCell ⟨gx,2,none⟩ r2) base gx bm r0 r1 r2 ⟨l,names,rows,L⟩:=by
 have s1:=Bs h.s 0 r0;have s2:=Bs s1 1 r1;have s3:=Bs s2 2 r2;have m1:=h.m.keep (Below.heap_setCell W ⟨gx,0,none⟩ r0 bm (fun e=>h.m.ne h.s e.symm));have m2:=m1.keep (Below.heap_setCell (W.setCell ⟨gx,0,none⟩ r0) ⟨gx,1,none⟩ r1 bm (fun e=>m1.ne s1 e.symm));have m3:=m2.keep (Below.heap_setCell ((W.setCell ⟨gx,0,none⟩ r0).setCell ⟨gx,1,none⟩ r1) ⟨gx,2,none⟩ r2 bm (fun e=>m2.ne s2 e.symm));exact⟨s3,Rs (Rs (Rs h.q0 h.s (by decide) 0 r0) s1 (by decide) 1 r1) s2 (by decide) 2 r2,Rs (Rs (Rs h.q1 h.s (by decide) 0 r0) s1 (by decide) 1 r1) s2 (by decide) 2 r2,
  Rs (Rs (Rs h.q2 h.s (by decide) 0 r0) s1 (by decide) 1 r1) s2 (by decide) 2 r2,m3,h.gb,h.bb⟩
theorem Hv.PO(h:Hv W0 W base gx bm b o0 o1 o2 r0 r1 r2 l names rows L i) :
 AN W0 (((W.setCell ⟨gx,0,none⟩ r0).setCell ⟨gx,1,none⟩ r1).setCell ⟨gx,2,none⟩ r2) base gx bm o0 o1 o2 r0 r1 r2:=((h.K.set h.gb 0 r0).set h.gb 1 r1).set h.gb 2 r2
end
def PN(gx b:Nat)(o0 o1 o2:Value)(i:In)(W:World):Prop :=
 W.cell? ⟨gx,0,none⟩=some o0∧W.cell? ⟨gx,1,none⟩=some o1∧W.cell? ⟨gx,2,none⟩=some o2 ∧
 W.cell? ⟨b,0,none⟩=some (.int .i64 i.op)∧W.cell? ⟨b,1,none⟩=some (.int .i64 i.d)∧W.cell? ⟨b,2,none⟩=some (.int .i64 i.s)∧W.cell? ⟨b,3,none⟩=some (.int .i64 i.t) ∧
 W.cell? ⟨b,4,none⟩=some (.int .i64 i.u)∧W.cell? ⟨b,5,none⟩=some (.int .i64 i.a)∧W.cell? ⟨b,6,none⟩=some (.int .u32 i.k)∧W.cell? ⟨b,7,none⟩=some (.int .i64 i.q)
theorem OA{W0 W:World}{base gx bm b:Nat}{o0 o1 o2 r0 r1 r2:Value}{l:List In}{names:List (List UInt8)}{rows:List Int}{L:List (List UInt8×Nat)}{i:In}(h:Hv W0 W base gx bm b o0 o1 o2 r0 r1 r2 l names rows L i):PN gx b o0 o1 o2 i W :=
 ⟨(Bc h.s 0).trans rfl,(Bc h.s 1).trans rfl,(Bc h.s 2).trans rfl,(Bc h.e 0).trans rfl,(Bc h.e 1).trans rfl,(Bc h.e 2).trans rfl,(Bc h.e 3).trans rfl,(Bc h.e 4).trans rfl,(Bc h.e 5).trans rfl,(Bc h.e 6).trans rfl,(Bc h.e 7).trans rfl⟩
section
variable {ops:Array Oper} {o:Oper} {a:Act} {K:Act→World→Prop} {Q:Exit→Act→World→Prop} {E:Prop} {W:World}
theorem Bw(W:World)(o:Obj):Below W.heap.size W (W.alloc o):=(Below.refl _ _).alloc (Nl _) o
theorem Mv(hgd:o.guard=none)(x:Operand)(ho:o.op=.buildSlice 33 1 #[(0,x)])(i:In)(hx:a.eval x=.agg i.cs)
  (h:∀ g W1,Below W.heap.size W W1→W1.heap[g]?=some (.cells i.cs 126 (0,0))→K (a.put o.dst (.slice (some ⟨g,0,none⟩) 1 1)) W1) :
  if Region.wanted o (yielded ops a.tmps)=true then Oper.wp Tryz.prog o a W K Q else E:=by
 rw[if_pos (by simp[Region.wanted,hgd])];obtain⟨i9,hi,hz0,hz1,hz2⟩:=info_parts KS;refine wp_buildSlice 33 126 1 _ ho i.cs i9 (.agg In.zero.cs) Tryz.underlying33 hi hz0 (by rw[hz1];decide) (by rw[hz1];decide) ?_ (h _ _ (Bw W _) (Bv _ _));rw[hz1];simp only[List.map_toArray,List.map_cons,List.map_nil,hx];cases i
 kernel_rfl
theorem Mw(hgd:o.guard=none)(x:Operand)(ho:o.op=.buildSlice 108 1 #[(0,x)])(y:List UInt8)(hx:a.eval x=.string ⟨y.toArray⟩)
  (h:∀ g W1,Below W.heap.size W W1→W1.heap[g]?=some (.cells #[.string ⟨y.toArray⟩] 9 (0,0))→K (a.put o.dst (.slice (some ⟨g,0,none⟩) 1 1)) W1) :
  if Region.wanted o (yielded ops a.tmps)=true then Oper.wp Tryz.prog o a W K Q else E:=by
 rw[if_pos (by simp[Region.wanted,hgd])];obtain⟨i9,hi,hz0,hz1,hz2⟩:=info_parts I5;refine wp_buildSlice 108 9 1 _ ho #[.string ⟨y.toArray⟩] i9 (.string ⟨#[]⟩) Tryz.underlying108 hi hz0 (by rw[hz1];decide) (by rw[hz1];decide) ?_ (h _ _ (Bw W _) (Bv _ _));rw[hz1];simp only[List.map_toArray,List.map_cons,List.map_nil,hx]
 kernel_rfl
theorem L1(hgd:o.guard=none)(x:Operand)(ho:o.op=.buildSlice 26 1 #[(0,x)])(y:Int)(hx:a.eval x=.int .i64 y)
  (h:∀ g W1,Below W.heap.size W W1→W1.heap[g]?=some (.cells #[.int .i64 y] 3 (0,0))→K (a.put o.dst (.slice (some ⟨g,0,none⟩) 1 1)) W1) :
  if Region.wanted o (yielded ops a.tmps)=true then Oper.wp Tryz.prog o a W K Q else E:=by
 rw[if_pos (by simp[Region.wanted,hgd])];obtain⟨i9,hi,hz0,hz1,hz2⟩:=info_parts DX;refine wp_buildSlice 26 3 1 _ ho #[.int .i64 y] i9 (.int .i64 0) Tryz.underlying26 hi hz0 (by rw[hz1];decide) (by rw[hz1];decide) ?_ (h _ _ (Bw W _) (Bv _ _));rw[hz1];simp only[List.map_toArray,List.map_cons,List.map_nil,hx]
 kernel_rfl
theorem EC(hgd:o.guard=none)(s x:Operand)(t:TypeId)(ho:o.op=.call {callee:=.builtin .append,args:=#[s,x],argTypes:=#[t,t]})
  (base:Nat)(e:TypeId)(i:TypeInfo)(z:Value)(size bytes:Nat)(ht:Tryz.prog.underlying t=some (.slice e))(hi:Tryz.prog.info? e=some i)(hz:i.zero=some z)
  (hsize:i.size=size)(hby:i.bytes=bytes)(hzs:z.cells.size=size)(hsz:0<size)
  (v:Value)(n:Nat)(xs:List Value)(hs:a.eval s=v)(hown:W.ownsRow base e size v n xs)
  (g:Nat)(cs:Array Value)(fr:Nat×Nat)(hx:a.eval x=.slice (some ⟨g,0,none⟩) 1 1)(hy:W.heap[g]?=some (.cells cs e fr))(hcs:cs.size=size)(h1:∀ u∈cs.toList,u.oneCell'=true)
  (hl:n≤1000000)(hbytes:bytes≤1000)(hb:base≤W.heap.size)
  (h:∀ v' W1,W1.ownsRow base e size v' (n+1) (xs++cs.toList)→W.grownBy W1 v.ownBlock→(v'.ownBlock=v.ownBlock∨v'.ownBlock=some W.heap.size)→K (a.put o.dst v') W1) :
  if Region.wanted o (yielded ops a.tmps)=true then Oper.wp Tryz.prog o a W K Q else E:=by
 rw[if_pos (by simp[Region.wanted,hgd])];have hm:(n+1)*bytes≤1000001*1000:=Nat.mul_le_mul (by omega) hbytes;obtain⟨v',w',hr,h2,h3,h4,h5⟩:=run_append_own_at (P:=Tryz.prog) W base t o.type e i z size bytes ht hi hz hsize hby hzs hsz v n xs hown ⟨g,0,none⟩ 1 1 cs.toList (by simpa using hcs) (World.news_of_block hy) h1 (by simp[maxLen];omega) (by omega) hb;unfold Oper.wp execOp;simp only[ho,resolve,invoke,builtin,Sem.run_bind,Sem.run_pure,Result.andThen_ok,List.map_toArray,List.map_cons,List.map_nil,hs,hx,hr];exact h _ _ h2 h3 h5
theorem Mx(hgd:o.guard=none)(s x:Operand)(ho:o.op=.call {callee:=.builtin .append,args:=#[s,x],argTypes:=#[33,33]})
  (base g:Nat)(y:In)(v:Value)(xs:List In)(hs:a.eval s=v)(hr:BN W base v xs)(hx:a.eval x=.slice (some ⟨g,0,none⟩) 1 1)
  (hy:W.heap[g]?=some (.cells y.cs 126 (0,0)))(hl:xs.length≤1000000)(hb:base≤W.heap.size)
  (h:∀ v' W1,BN W1 base v' (xs++[y])→W.grownBy W1 v.ownBlock→(v'.ownBlock=v.ownBlock∨v'.ownBlock=some W.heap.size)→K (a.put o.dst v') W1) :
  if Region.wanted o (yielded ops a.tmps)=true then Oper.wp Tryz.prog o a W K Q else E:=by
 obtain⟨i9,hi,hz0,hz1,hz2⟩:=info_parts KS;refine EC hgd s x 33 ho base 126 i9 (.agg In.zero.cs) 8 64 Tryz.underlying33 hi hz0 hz1 hz2 rfl (by decide) v xs.length (AP xs) hs hr g y.cs (0,0) hx hy rfl ?_ hl (by decide) hb ?_
 ·intro u hu;have:u∈y.cs.toList:=hu;simp[In.cs]at this;rcases this with rfl |rfl |rfl |rfl |rfl |rfl |rfl |rfl<;>rfl
 ·intro v' W1 h1 h2 h4;refine h v' W1 ?_ h2 h4;unfold BN;rw[Ei,List.length_append];exact h1
theorem My(hgd:o.guard=none)(s x:Operand)(ho:o.op=.call {callee:=.builtin .append,args:=#[s,x],argTypes:=#[108,108]})
  (base g:Nat)(y:List UInt8)(v:Value)(xs:List (List UInt8))(hs:a.eval s=v)(hr:Dk W base v xs)(hx:a.eval x=.slice (some ⟨g,0,none⟩) 1 1)
  (hy:W.heap[g]?=some (.cells #[.string ⟨y.toArray⟩] 9 (0,0)))(hl:xs.length≤1000000)(hb:base≤W.heap.size)
  (h:∀ v' W1,Dk W1 base v' (xs++[y])→W.grownBy W1 v.ownBlock→(v'.ownBlock=v.ownBlock∨v'.ownBlock=some W.heap.size)→K (a.put o.dst v') W1) :
  if Region.wanted o (yielded ops a.tmps)=true then Oper.wp Tryz.prog o a W K Q else E:=by
 obtain⟨i9,hi,hz0,hz1,hz2⟩:=info_parts I5;refine EC hgd s x 108 ho base 9 i9 (.string ⟨#[]⟩) 1 16 Tryz.underlying108 hi hz0 hz1 hz2 rfl (by decide) v xs.length _ hs hr g #[.string ⟨y.toArray⟩] (0,0) hx hy rfl ?_ hl (by decide) hb ?_
 ·simp[Value.oneCell']
 ·intro v' W1 h1 h2 h4;refine h v' W1 ?_ h2 h4;unfold Dk;rw[List.map_append,List.length_append];exact h1
theorem L2(hgd:o.guard=none)(s x:Operand)(ho:o.op=.call {callee:=.builtin .append,args:=#[s,x],argTypes:=#[26,26]})
  (base g:Nat)(y:Int)(v:Value)(xs:List Int)(hs:a.eval s=v)(hr:B6 W base v xs)(hx:a.eval x=.slice (some ⟨g,0,none⟩) 1 1)
  (hy:W.heap[g]?=some (.cells #[.int .i64 y] 3 (0,0)))(hl:xs.length≤1000000)(hb:base≤W.heap.size)
  (h:∀ v' W1,B6 W1 base v' (xs++[y])→W.grownBy W1 v.ownBlock→(v'.ownBlock=v.ownBlock∨v'.ownBlock=some W.heap.size)→K (a.put o.dst v') W1) :
  if Region.wanted o (yielded ops a.tmps)=true then Oper.wp Tryz.prog o a W K Q else E:=by
 obtain⟨i9,hi,hz0,hz1,hz2⟩:=info_parts DX;refine EC hgd s x 26 ho base 3 i9 (.int .i64 0) 1 8 Tryz.underlying26 hi hz0 hz1 hz2 rfl (by decide) v xs.length _ hs hr g #[.int .i64 y] (0,0) hx hy rfl ?_ hl (by decide) hb ?_
 ·simp[Value.oneCell']
 ·intro v' W1 h1 h2 h4;refine h v' W1 ?_ h2 h4;unfold B6;rw[List.map_append,List.length_append];exact h1
end
theorem Mu(W:World)(base gx bm:Nat)(v0 v1 v2:Value)(x:Src)(s:List UInt8)(n:Int)(he:Env W)(hX:Cr W base gx bm v0 v1 v2 x)(hs:s.length≤90000)(hb0:base≤W.heap.size)
  (hend:s.getLast?=some 10)(hnot:¬(s.dropLast.getLast?=some 58∧B8 s.dropLast.dropLast=true))(hgood:(Ek s.dropLast).2.2=true)(h64:x.l.length<64)(hnl:x.names.length=x.l.length)(Qu:x.rows.length=x.l.length) :
  Calls Tryz.prog 67 #[.pointer (some ⟨gx,0,none⟩),.string ⟨s.toArray⟩,.int .i64 n] W fun e W1=>e=.returned (.int .i64 (BB x s n).2) ∧
   ∃ u0 u1 u2,Cr W1 base gx bm u0 u1 u2 (BB x s n).1∧AN W W1 base gx bm v0 v1 v2 u0 u1 u2:=by
 have hF:BB x s n=({x with l:=x.l++[(Ek s.dropLast).1],names:=x.names++[(Ek s.dropLast).2.1],rows:=x.rows++[n]},0):=by
  unfold BB;rw[if_neg (by rw[hend];simp)];dsimp only;rw[if_neg hnot,hgood,if_neg (by simp),if_neg (by omega)]
 generalize BB x s n=fin at hF ⊢;have hl1:s.dropLast.length≤90000:=by simp;omega
 have C1:=fun W'=>De s 10 (by omega) W'
 have C2:=fun W'=>De s.dropLast 58 (by omega) W'
 have C4:=fun(W':World) (heW:Env W')=>HG s.dropLast W' heW hl1
 have hc1:DE s 10=(s.dropLast,true):=by unfold DE;rw[if_pos hend]
 rw[hc1]at C1;have hc2:∃ p is,DE s.dropLast 58=(p,is)∧(is=true→p.length≤90000∧B8 p=false):=by
  by_cases hcol:s.dropLast.getLast?=some 58
  ·refine⟨s.dropLast.dropLast,true,by unfold DE;rw[if_pos hcol],fun _=>⟨by simp;omega,?_⟩⟩
   simpa using fun h=>hnot ⟨hcol,h⟩
  ·exact⟨s.dropLast,false,by unfold DE;rw[if_neg hcol],fun h=>by cases h⟩
 obtain⟨p,is,hc2,hp⟩:=hc2;rw[hc2]at C2;generalize s.dropLast=s1 at *;generalize Ek s1=r at *;obtain⟨⟨op,d,s',t,u,a,k,q⟩,tl,ok⟩:=r;dsimp only at hF hgood C4;subst hgood;dsimp only[In.v]at C4;obtain⟨A,c,rfl⟩:∃ A c,v0=.slice A x.l.length c:=by
  rcases hX.r0.2 with ⟨rfl,h0⟩ |⟨g,cap,cur,rfl,_⟩
  ·exact⟨none,0,by rw[h0]⟩
  ·exact⟨_,_,rfl⟩
 replace C1:=Az C1;replace C2:=Az C2;replace C4:=Az C4;replace hX:=Az hX;replace hF:=Az hF;replace hp:=Az hp;have hcut0:(n:Int)=n:=rfl;clear hc1 hc2 hend hnot hcut0;go_enter Tryz.func67,Tryz.ntmps67;go_wp2_with fail
 refine(C1.out _).mono ?_;rintro e w1 ⟨rfl,hb1⟩;go_wp2_with fail
 refine(C2.out _).mono ?_;rintro e w2 ⟨rfl,hb2⟩;have hB:=Az (hb1.trans (hb2.mono hb1.size));clear hb1 hb2 C1 C2;go_upto_region 5 with fail
 go_cut [31] (fun v wx=>v=.bool false∧Ai (Below W.heap.size W wx))
 case first =>
  cases is with
  |false =>
   go_wp2;go_meet
   exact⟨rfl,hB⟩
  |true =>
   have C3:=DK p w2 (by have:=(hp.out rfl).1;omega);rw[(hp.out rfl).2]at C3;replace C3:=Az C3;go_wp2_with fail
   refine C3.out.mono ?_;rintro e w3 ⟨rfl,hb3⟩;go_wp2;go_meet
   exact⟨rfl,⟨hB.out.trans (hb3.mono hB.out.size)⟩⟩
 case rest =>
  obtain⟨rfl,hB⟩:=hcut;go_wp2_with fail
  refine(C4.out _ (he.below hB.out)).mono ?_;rintro e w4 ⟨rfl,hb4⟩;have hB4:=Az ((hB.out.trans (hb4.mono hB.out.size)).alloc (hB.out.trans (hb4.mono hB.out.size)).size (.cells (In.cs ⟨op,d,s',t,u,a,k,q⟩) 126));have hX4:=Az (hX.out.keep hB4.out);have hE4:=Az (Bv w4 (.cells (In.cs ⟨op,d,s',t,u,a,k,q⟩) 126));have hle:=(hB.out.trans (hb4.mono hB.out.size)).size;have hM:=Az (show Hv W (w4.alloc (.cells (In.cs ⟨op,d,s',t,u,a,k,q⟩) 126)) base gx bm w4.heap.size (.slice A x.l.length c) v1 v2 (.slice A x.l.length c) v1 v2 x.l x.names x.rows x.labels ⟨op,d,s',t,u,a,k,q⟩ from
   ⟨hX4.out.s,hE4.out,hX4.out.r0,hX4.out.r1,hX4.out.r2,hX4.out.m,hX4.out.gb,hX4.out.bb,fun k hk=>Nat.ne_of_lt (Nat.lt_of_lt_of_le (Ol hX.out.r0 k hk) hle),.Dm hB4.out hb0⟩)
  clear hX4 hE4 hle hB hB4 hb4 C4;have c0:(w4.alloc (.cells (In.cs ⟨op,d,s',t,u,a,k,q⟩) 126)).cell? ⟨gx,0,none⟩=some (.slice A x.l.length c):=(Bc hM.out.s 0).trans rfl;have h64a:decide (64≤(x.l.length:Int))=false:=decide_eq_false (by omega);have h64b:¬64≤x.l.length:=by omega
  obtain⟨b,hb⟩:∃ b,w4.heap.size=b:=⟨_,rfl⟩
  obtain⟨w5,hw5⟩:∃ y,w4.alloc (.cells (In.cs ⟨op,d,s',t,u,a,k,q⟩) 126)=y:=⟨_,rfl⟩
  rw[hw5,hb]at hM;rw[hw5]at c0;simp only[In.cs]at hw5;go_upto_region 16 with fail
  try rw[hw5]
  try rw[hb]
  clear hw5 hb c0;have hS:=OA (hM.out.keep (Bd (Below.refl _ _)));refine Aw [26] (S:=PN gx b (.slice A x.l.length c) v1 v2 ⟨op,d,s',t,u,a,k,q⟩) (by kernel_rfl) hS (fun hS0=>?_);replace hM:=hM.out.keep (Bd (Below.refl _ _));generalize w5.drew=w5 at *;have hrow:x.l.length≤1000000:=by omega
  have hrow1:x.names.length≤1000000:=by omega
  have hrow2:x.rows.length≤1000000:=by omega
  clear h64 h64a h64b hnl Qu he;refine tY 0 (fun _=>by assumption) ?_;refine tY 1 (fun _=>by assumption) ?_;refine tY 2 (fun _=>by assumption) ?_;refine tY 3 (fun _=>by assumption) ?_;refine tY 4 (fun _=>by assumption) ?_;refine tY 5 (fun _=>by assumption) ?_;refine tL 6 (by assumption) ?_;refine tL 7 (by assumption) ?_;refine tY 10 (fun _=>by assumption) ?_;refine tY 11 (fun _=>by assumption) ?_;refine tY 12 (fun _=>by assumption) ?_;refine tL 13 (by assumption) ?_;refine tY 14 (fun _=>by assumption) ?_;refine tY 17 (fun _=>by assumption) ?_;refine tY 18 (fun _=>by assumption) ?_;refine tY 19 (fun _=>by assumption) ?_;refine tL 20 (by assumption) ?_;refine tY 21 (fun _=>by assumption) ?_;iterate 6
   all_goals first
    |refine Ab (rs:=[8,15,22]) (by decide +kernel) (by simp) (Aa.cons (Ac rfl) (fun K hK=>?_) (Aa.cons (Ac rfl) (fun K hK=>?_) (Aa.cons (Ac rfl) (fun K hK=>?_) Aa.nil)))
    |refine Ab (rs:=[9,15,22]) (by decide +kernel) (by simp) (Aa.cons (Ac rfl) (fun K hK=>?_) (Aa.cons (Ac rfl) (fun K hK=>?_) (Aa.cons (Ac rfl) (fun K hK=>?_) Aa.nil)))
    |refine Ab (rs:=[8,15]) (by decide +kernel) (by simp) (Aa.cons (Ac rfl) (fun K hK=>?_) (Aa.cons (Ac rfl) (fun K hK=>?_) Aa.nil))
    |refine Ab (rs:=[8,22]) (by decide +kernel) (by simp) (Aa.cons (Ac rfl) (fun K hK=>?_) (Aa.cons (Ac rfl) (fun K hK=>?_) Aa.nil))
    |refine Ab (rs:=[9,15]) (by decide +kernel) (by simp) (Aa.cons (Ac rfl) (fun K hK=>?_) (Aa.cons (Ac rfl) (fun K hK=>?_) Aa.nil))
    |refine Ab (rs:=[9,22]) (by decide +kernel) (by simp) (Aa.cons (Ac rfl) (fun K hK=>?_) (Aa.cons (Ac rfl) (fun K hK=>?_) Aa.nil))
    |refine Ab (rs:=[15,22]) (by decide +kernel) (by simp) (Aa.cons (Ac rfl) (fun K hK=>?_) (Aa.cons (Ac rfl) (fun K hK=>?_) Aa.nil))
    |refine Ab (rs:=[16,22]) (by decide +kernel) (by simp) (Aa.cons (Ac rfl) (fun K hK=>?_) (Aa.cons (Ac rfl) (fun K hK=>?_) Aa.nil))
    |refine Ab (rs:=[8]) (by decide +kernel) (by simp) (Aa.cons (Ac rfl) (fun K hK=>?_) Aa.nil)
    |refine Ab (rs:=[9]) (by decide +kernel) (by simp) (Aa.cons (Ac rfl) (fun K hK=>?_) Aa.nil)
    |refine Ab (rs:=[15]) (by decide +kernel) (by simp) (Aa.cons (Ac rfl) (fun K hK=>?_) Aa.nil)
    |refine Ab (rs:=[16]) (by decide +kernel) (by simp) (Aa.cons (Ac rfl) (fun K hK=>?_) Aa.nil)
    |refine Ab (rs:=[22]) (by decide +kernel) (by simp) (Aa.cons (Ac rfl) (fun K hK=>?_) Aa.nil)
    |refine Ab (rs:=[23]) (by decide +kernel) (by simp) (Aa.cons (Ac rfl) (fun K hK=>?_) Aa.nil)
   all_goals first
    |(refine Mv rfl (.tmp 75) rfl ⟨op,d,s',t,u,a,k,q⟩ rfl (fun g8 w1 hb hy=>?_);replace hM:=hM.keep hb;(try replace hg15:=Bk hb hg15);(try replace hg22:=Bk hb hg22);have hg8:=hy;clear hb hy)
    |(refine Mw rfl (.tmp 82) rfl tl rfl (fun g15 w1 hb hy=>?_);replace hM:=hM.keep hb;(try replace hg8:=Bk hb hg8);(try replace hg22:=Bk hb hg22);have hg15:=hy;clear hb hy)
    |(refine L1 rfl (.tmp 89) rfl n rfl (fun g22 w1 hb hy=>?_);replace hM:=hM.keep hb;(try replace hg8:=Bk hb hg8);(try replace hg15:=Bk hb hg15);have hg22:=hy;clear hb hy)
    |(refine Mx rfl (.tmp 74) (.tmp 76) rfl base g8 ⟨op,d,s',t,u,a,k,q⟩ _ x.l rfl hM.q0 rfl hg8 hrow hM.OB (fun u0 w1 hr hg ha=>?_);(try replace hg15:=Bg hg15 hg (Oa hM.q0 hg15 (by decide)));(try replace hg22:=Bg hg22 hg (Oa hM.q0 hg22 (by decide)));replace hM:=hM.a0 hr hg ha;clear hr hg ha hg8)
    |(refine My rfl (.tmp 81) (.tmp 83) rfl base g15 tl _ x.names rfl hM.q1 rfl hg15 hrow1 hM.OB (fun u1 w1 hr hg ha=>?_);(try replace hg22:=Bg hg22 hg (Oa hM.q1 hg22 (by decide)));replace hM:=hM.a1 hr hg ha;clear hr hg ha hg15)
    |(refine L2 rfl (.tmp 88) (.tmp 90) rfl base g22 n _ x.rows rfl hM.q2 rfl hg22 hrow2 hM.OB (fun u2 wL hr hg ha=>?_);replace hM:=hM.a2 hr hg ha;clear hr hg ha hg22)
   all_goals refine hK.out _ _ (fun _=>OA hM) (fun hSn=>?_)
   all_goals replace hS0:=hSn rfl
   all_goals clear hSn hK K
   all_goals try simp only[Act.put,Sa,Sb,Sc]
  all_goals (
   obtain⟨A0,n0,e0,rfl⟩:=AB hM.q0;obtain⟨A1,n1,e1,rfl⟩:=AB hM.q1;obtain⟨A2,n2,e2,rfl⟩:=AB hM.q2;have q0:wL.cell? ⟨gx,0,none⟩=some (.slice A x.l.length c):=(Bc hM.s 0).trans rfl;have f0:=Bf hM.s 0;have q1:wL.cell? ⟨gx,1,none⟩=some v1:=(Bc hM.s 1).trans rfl;have f1:=Bf hM.s 1;have q2:wL.cell? ⟨gx,2,none⟩=some v2:=(Bc hM.s 2).trans rfl;have f2:=Bf hM.s 2;have z0:gx<wL.heap.size:=Bl hM.s;replace hM:=Az hM;refine tY 24 (fun _=>by assumption) ?_;refine tY 25 (fun _=>by assumption) ?_;refine Ab (rs:=[26]) (by kernel_rfl) (by simp) ?_;refine Aa.cons (Ac rfl) (fun K hK=>?_) Aa.nil;go_simp
   go_wp2_with fail
   refine hK.out _ _ (fun h=>by cases h) (fun _=>?_);try simp only[Act.put,Sa,Sb,Sc]
   refine tY 27 (fun h=>by cases h) ?_;refine tY 28 (fun h=>by cases h) ?_;refine Ab (rs:=[29]) (by kernel_rfl) (by simp) ?_;refine Aa.cons (Ac rfl) (fun K hK=>?_) Aa.nil;go_simp
   go_wp2_with fail
   refine hK.out _ _ (fun h=>by cases h) (fun _=>?_);try simp only[Act.put,Sa,Sb,Sc]
   refine tY 30 (fun h=>by cases h) ?_;refine tY 31 (fun h=>by cases h) ?_;refine Ab (rs:=[32]) (by kernel_rfl) (by simp) ?_;refine Aa.cons (Ac rfl) (fun K hK=>?_) Aa.nil;go_simp
   go_wp2_with fail
   refine hK.out _ _ (fun h=>by cases h) (fun _=>?_);try simp only[Act.put,Sa,Sb,Sc]
   refine AL (by kernel_rfl) ?_ _;go_wp2;go_ret;exact⟨by rw[hF.out];rfl,_,_,_,by rw[hF.out];exact hM.out.shut,hM.out.PO⟩)
end
section
def Bm:Nat→(Nat→Nat)→Nat
 |0,_=>0
 |n+1,f=>Bm n f+f n
theorem ES{f g:Nat→Nat}:∀ n:Nat,(∀ t,t<n→f t=g t)→Bm n f=Bm n g
 |0,_=>rfl
 |n+1,h=>by rw[Bm,Bm,ES n (fun t ht=>h t (by omega)),h n (by omega)]
theorem FW{f g:Nat→Nat}{t:Nat}:∀ n:Nat,t<n→(∀ u,u≠t→g u=f u)→Bm n g+f t=Bm n f+g t
 |n+1,ht,h=>by
  by_cases e:t=n
  ·subst e;rw[Bm,Bm,ES t (fun u hu=>h u (by omega))];omega
  ·have:=FW n (by omega) h;rw[Bm,Bm,h n (fun e'=>e e'.symm)];omega
theorem Es{f:Nat→Nat}:∀ n:Nat,(∀ t,t<n→f t=0)→Bm n f=0
 |0,_=>rfl
 |n+1,h=>by rw[Bm,Es n (fun t ht=>h t (by omega)),h n (by omega)]
theorem Gm(c:Nat):∀ n:Nat,Bm n (fun _=>c)=n*c
 |0=>by simp[Bm]
 |n+1=>by rw[Bm,Gm c n,Nat.succ_mul]
structure Fair (n R:Nat) (pg:Pg) (cells:List (Nat×Nat)) {σ:Type} (I:σ→LS→Prop) (rank:σ→Nat) (stuck:σ→Nat→Prop):Prop where
 call:∀ (r:Bz) (s:LS) (g:σ) (t:Nat) (late:Int),C6 n pg cells r s→I g s→t<n→s.act t=0→∃ s' g',C6 n pg cells (r.op 1 t late) s'∧I g' s'∧s'.act=E1 s.act t 1∧rank g'≤rank g+R
 unlock:∀ (r:Bz) (s:LS) (g:σ) (t:Nat) (late:Int),C6 n pg cells r s→I g s→t<n→s.act t=2→∃ s' g',C6 n pg cells (r.op 2 t late) s'∧I g' s'∧s'.act=E1 s.act t 3∧rank g'<rank g
 step:∀ (r:Bz) (s:LS) (g:σ) (t:Nat) (kind late:Int),C6 n pg cells r s→I g s→t<n→s.act t=1∨s.act t=3→kind≠1→kind≠2→∃ s' g',C6 n pg cells (r.op kind t late) s'∧I g' s' ∧
  ((∃ a,s'.act=E1 s.act t a∧(s.act t=1∧(a=1∨a=2)∨s.act t=3∧(a=3∨a=0))∧rank g'<rank g)∨(g'=g∧s'.act=s.act∧stuck g t))
 prog:∀ (s:LS) (g:σ),I g s→(∀ t,t<n→s.act t=0∨stuck g t)→∀ t,t<n→s.act t=0
 act:∀ (s:LS) (g:σ),I g s→∀ t,t<n→s.act t≤3
 ok:∀ (s:LS) (g:σ),I g s→s.tr.ok=true
section
variable {n R:Nat} {pg:Pg} {cells:List (Nat×Nat)} {σ:Type} {I:σ→LS→Prop} {rank:σ→Nat} {stuck:σ→Nat→Prop}
theorem Fair.op(F:Fair n R pg cells I rank stuck)(r:Bz)(s:LS)(h:C6 n pg cells r s)(hi:∃ g,I g s)(kind t late:Int):∃ s',C6 n pg cells (r.op kind t late) s'∧∃ g,I g s' :=
 MW (I:=fun s=>∃ g,I g s) (fun r s t late h ⟨g,hi⟩ ht ha=>by obtain⟨s',g',h1,h2,_⟩:=F.call r s g t late h hi ht ha;exact⟨s',h1,g',h2⟩)
  (fun r s t late h ⟨g,hi⟩ ht ha=>by obtain⟨s',g',h1,h2,_⟩:=F.unlock r s g t late h hi ht ha;exact⟨s',h1,g',h2⟩)
  (fun r s t kind late h ⟨g,hi⟩ ht ha k1 k2=>by obtain⟨s',g',h1,h2,_⟩:=F.step r s g t kind late h hi ht ha k1 k2;exact⟨s',h1,g',h2⟩) r s h hi kind t late
theorem Fair.ops(F:Fair n R pg cells I rank stuck)(l:List (Int×Int×Int))(r:Bz)(s:LS)(g:σ)(h:C6 n pg cells r s)(hi:I g s):∃ s' g',C6 n pg cells (r.ops l) s'∧I g' s':=by
 obtain⟨s',h1,g',h2⟩:=KR (I:=fun s=>∃ g,I g s) F.op l r s h ⟨g,hi⟩;exact⟨s',g',h1,h2⟩
theorem Fair.Jn(F:Fair n R pg cells I rank stuck)(h1:1≤n)(h2:n≤64){r:Bz}{s:LS}{g:σ}(h:C6 n pg cells r s)(hi:I g s):r.Jn n=true:=h.Jn h1 h2 (F.ok s g hi)
theorem Fair.trace(F:Fair n R pg cells I rank stuck)(h1:1≤n)(h2:n≤64)(l:List (Int×Int×Int)){r:Bz}{s:LS}{g:σ}(h:C6 n pg cells r s)(hi:I g s):(r.ops l).Jn n=true:=by
 obtain⟨s',g',h3,h4⟩:=F.ops l r s g h hi;exact F.Jn h1 h2 h3 h4
theorem Fair.F5(F:Fair n R pg cells I rank stuck){r:Bz}{s:LS}{g:σ}{t:Nat}(h:C6 n pg cells r s)(hi:I g s)(ht:t<n) :
  ∃ s' g',C6 n pg cells (if s.act t=2 then r.op 2 t 0 else r.op 3 t 0) s'∧I g' s' ∧
   ((∃ a,s'.act=E1 s.act t a∧(s.act t=1∧(a=1∨a=2)∨s.act t=2∧a=3∨s.act t=3∧(a=3∨a=0))∧rank g'<rank g)∨(g'=g∧s'.act=s.act∧(s.act t=0∨s.act t≠0∧s.act t≠2∧stuck g t))):=by
 have h3:=F.act s g hi t ht;by_cases e2:s.act t=2
 ·rw[if_pos e2];obtain⟨s',g',a1,a2,a3,a4⟩:=F.unlock r s g t 0 h hi ht e2;exact⟨s',g',a1,a2,.inl ⟨3,a3,.inr (.inl ⟨e2,rfl⟩),a4⟩⟩
 ·rw[if_neg e2];by_cases e0:s.act t=0
  ·refine⟨s,g,?_,hi,.inr ⟨rfl,rfl,.inl e0⟩⟩;have ea:=h.act t ht;unfold Bz.op;rw[if_neg (by rw[h.la,h.bad];simp;omega),if_neg (fun x=>by cases x.1),if_neg (fun x=>by cases x.1),if_neg (fun x=>by rw[Int.toNat_natCast,ea]at x;omega)];exact h
  ·obtain⟨s',g',a1,a2,a3⟩:=F.step r s g t 3 0 h hi ht (by omega) (by decide) (by decide);refine⟨s',g',a1,a2,?_⟩;rcases a3 with ⟨a,b1,b2,b3⟩ |⟨b1,b2,b3⟩
   ·exact .inl ⟨a,b1,by rcases b2 with b |b;exact .inl b;exact .inr (.inr b),b3⟩
   ·exact .inr ⟨b1,b2,.inr ⟨e0,e2,b3⟩⟩
theorem Fair.HY(F:Fair n R pg cells I rank stuck){r:Bz}{s:LS}{g:σ}(h:C6 n pg cells r s)(hi:I g s):∀ k:Nat,k≤n →
  ∃ s' g',C6 n pg cells ((List.range k).foldl DM (r,false)).1 s'∧I g' s'∧(((List.range k).foldl DM (r,false)).2=true↔∃ t,t<k∧s'.act t≠0) ∧
   (rank g'<rank g∨(g'=g∧s'.act=s.act∧∀ t,t<k→s.act t=0∨stuck g t))
 |0,_=>⟨s,g,h,hi,by simp,.inr ⟨rfl,rfl,fun t ht=>by omega⟩⟩
 |k+1,hk=>by
  obtain⟨s1,g1,a1,a2,a3,a4⟩:=F.HY h hi k (by omega);rw[List.range_succ,List.foldl_append,List.foldl_cons,List.foldl_nil];generalize (List.range k).foldl DM (r,false)=v at a1 a3;obtain⟨r1,b1⟩:=v;dsimp only at a1 a3;obtain⟨s2,g2,c1,c2,c3⟩:=F.F5 (t:=k) a1 a2 (by omega);have e1:(DM (r1,b1) k).1=if s1.act k=2 then r1.op 2 k 0 else r1.op 3 k 0:=by
   unfold DM;dsimp only;rw[a1.act k (by omega)]
  have e2:(DM (r1,b1) k).2=(b1||decide (s2.act k≠0)):=by
   rw[←c1.act k (by omega),←e1];rfl
  have hk2:∀ t,t<k→s2.act t=s1.act t:=fun t ht=>by
   rcases c3 with ⟨a,d1,_⟩ |⟨_,d1,_⟩
   ·rw[d1];exact DV _ _ (by omega)
   ·rw[d1]
  refine⟨s2,g2,by rw[e1];exact c1,c2,?_,?_⟩
  ·rw[e2];simp only[Bool.or_eq_true,decide_eq_true_eq,a3];constructor
   ·rintro(⟨t,ht,hn⟩ |hn)
    ·exact⟨t,by omega,by rw[hk2 t ht];exact hn⟩
    ·exact⟨k,by omega,hn⟩
   ·rintro⟨t,ht,hn⟩;by_cases e:t=k
    ·exact .inr (e▸hn)
    ·exact .inl ⟨t,by omega,by rw[←hk2 t (by omega)];exact hn⟩
  ·rcases c3 with ⟨a,_,_,d3⟩ |⟨d1,d2,d3⟩
   ·rcases a4 with a4 |⟨rfl,_⟩
    ·exact .inl (by omega)
    ·exact .inl d3
   ·subst d1;rcases a4 with a4 |⟨rfl,a5,a6⟩
    ·exact .inl a4
    ·refine .inr ⟨rfl,by rw[d2,a5],fun t ht=>?_⟩;by_cases e:t=k
     ·subst e;rw[a5]at d3;rcases d3 with d3 |⟨_,_,d3⟩
      ·exact .inl d3
      ·exact .inr d3
     ·exact a6 t (by omega)
theorem Fair.fin(F:Fair n R pg cells I rank stuck):∀ (K:Nat) (r:Bz) (s:LS) (g:σ),C6 n pg cells r s→I g s→rank g<K →
  ∃ r' s' g',OZ K r=(r',true)∧C6 n pg cells r' s'∧I g' s'∧∀ t,t<n→s'.act t=0
 |K+1,r,s,g,h,hi,hk=>by
  obtain⟨s1,g1,a1,a2,a3,a4⟩:=F.HY h hi n (Nl n);unfold OZ Jo;rw[h.la];dsimp only;by_cases hb:((List.range n).foldl DM (r,false)).2=false
  ·rw[if_pos hb];refine⟨_,s1,g1,rfl,a1,a2,fun t ht=>Classical.byContradiction fun hn=>?_⟩;rw[a3.2 ⟨t,ht,hn⟩]at hb;cases hb
  ·rw[if_neg hb];refine F.fin K _ s1 g1 a1 a2 ?_;rcases a4 with a4 |⟨rfl,a5,a6⟩
   ·omega
   ·exfalso;obtain⟨t,ht,hn⟩:=a3.1 (by simpa using hb);exact hn (by rw[a5];exact F.prog s g1 hi a6 t ht)
end
end
section
open Go.RowKit Go.Proofs.YtjjpiefgdggghaaGreatDoorW.PrintWords
theorem FH{W:World}{base n size:Nat}{e:TypeId}{v:Value}{xs:List Value}(h:W.ownsRow base e size v n xs)(hn:0<n) :
  ∃ g c,v=.slice (some ⟨g,0,none⟩) n c∧n≤c∧base≤g∧(∃ cs,W.heap[g]?=some (.cells cs e (0,0))∧n*size≤cs.size)∧∀ j u,xs[j]?=some u→W.cell? ⟨g,j,none⟩=some u:=by
 obtain⟨h1,h2⟩:=h;rcases h2 with ⟨rfl,h0⟩ |⟨g,cap,cur,rfl,hg,hh,hc,hm,hs,ht⟩
 ·omega
 ·refine⟨g,cap,rfl,hc,hg,⟨cur,hh,by rw[hs];exact Nat.mul_le_mul_right _ hc⟩,fun j u hj=>(Bc hh j).trans ?_⟩;have hlt:j<n*size:=by rw[←h1];exact(List.getElem?_eq_some_iff.1 hj).1
  rw[←ht,List.getElem?_take_of_lt hlt,Array.getElem?_toList]at hj;exact hj
theorem KJ:(Tryz.prog.info? 112).map (fun i=>(i.zero,i.size,i.bytes))=some (some (.agg #[.string ⟨#[]⟩,.int .i64 0]),2,24):=by kernel_rfl
def Ds:List (List UInt8×Nat)→List Value
 |[]=>[]
 |p::L=>.string ⟨p.1.toArray⟩::.int .i64 (p.2:Int)::Ds L
theorem F1:∀ (L:List (List UInt8×Nat)) (p:List UInt8×Nat),Ds (L++[p])=Ds L++[.string ⟨p.1.toArray⟩,.int .i64 (p.2:Int)]
 |[],p=>rfl
 |q::L,p=>by simp[Ds,F1 L p]
theorem Fj:∀ (L:List (List UInt8×Nat)) (k:Nat) (hk:k<L.length),(Ds L)[k*2]?=some (.string ⟨(L[k]).1.toArray⟩)∧(Ds L)[k*2+1]?=some (.int .i64 ((L[k]).2:Int))
 |p::L,0,_=>⟨rfl,rfl⟩
 |p::L,k+1,hk=>by
  have:=Fj L k (by simpa using hk);rw[show(k+1)*2=k*2+1+1 by omega]
  simpa [Ds]using this
def Ey(W:World)(base:Nat)(v:Value)(L:List (List UInt8×Nat)):Prop:=W.ownsRow base 112 2 v L.length (Ds L)
theorem Ey.nil(W:World)(base:Nat):Ey W base (.slice none 0 0) []:=⟨rfl,.inl ⟨rfl,rfl⟩⟩
theorem Ey.keep{W W1:World}{base:Nat}{v:Value}{L:List (List UInt8×Nat)}(h:Ey W base v L)(hb:Below W.heap.size W W1):Ey W1 base v L:=Om h fun k hk=>hb.block k (Ol h k hk)
theorem K7{L:List (List UInt8×Nat)}{s:List UInt8}{n:Nat}:∀ (k:Nat),k<L.length→(∀ h:k<L.length,¬(L[k].1=s∧L[k].2<n))→BD (L.drop k) s n=BD (L.drop (k+1)) s n:=by
 intro k hk h;unfold BD;rw[List.drop_eq_getElem_cons hk,List.find?_cons_of_neg]
 simpa using h hk
theorem E6(v:Value)(L:List (List UInt8×Nat))(s:List UInt8)(n:Nat)(base:Nat)(W:World)(h:Ey W base v L)(hl:L.length≤1000000) :
  Calls Tryz.prog 65 #[v,.string ⟨s.toArray⟩,.int .i64 (n:Int)] W fun e W'=>e=.returned (.int .i64 (BD L s n))∧Below W.heap.size W W':=by
 obtain⟨fin,hf⟩:∃ r,BD L s n=r:=⟨_,rfl⟩
 rw[hf];obtain⟨A,m,c,rfl⟩:=AB h;obtain⟨k0,hk0⟩:∃ k,L.length=k:=⟨_,rfl⟩
 have hm:m=k0:=by
  rcases h.2 with ⟨e,h0⟩ |⟨g,cap,cur,e,_⟩
  ·injection e with e1 e2 e3;omega
  ·injection e with e1 e2 e3;omega
 subst hm;replace hf:=Az hf;replace h:=Az h;replace hk0:=Az hk0;have hl':m≤1000000:=by rw[←hk0.out];exact hl
 clear hl;go_enter Tryz.func65,Tryz.ntmps65;go_wp2_with fail
 go_loopw [11] (fun v11 wr=>∃ k:Nat,v11=.int .i64 k∧k≤m∧Ai (BD (L.drop k) s n=fin)∧Ai (Below W.heap.size W wr)) (fun v11 _=>m-(intOf v11).toNat)
 case atStart=>exact⟨0,rfl,Nat.zero_le _,⟨by simpa using hf.out⟩,⟨Below.refl _ _⟩⟩
 case round =>
  obtain⟨k,rfl,hk,hF,hB⟩:=hrel;by_cases hlt:k<m
  ·have hkx:k<L.length:=by rw[hk0.out];exact hlt
   obtain⟨g,c',hv,hc,hg,_,hcell⟩:=FH (h.out.keep hB.out) (by omega);obtain⟨rfl,rfl⟩:A=some ⟨g,0,none⟩∧c=c':=by injection hv with h1 h2 h3;exact⟨h1,h3⟩
   obtain⟨e1,e2⟩:=Fj L k hkx;have c1:=hcell _ _ e1;have c2:=hcell _ _ e2;have hstep:=K7 (L:=L) (s:=s) (n:=n) k hkx;have hit:(L[k]'hkx).1=s→(L[k]'hkx).2<n→BD (L.drop k) s n=((L[k]'hkx).2:Int):=fun h1 h2=>by
    unfold BD;rw[List.drop_eq_getElem_cons hkx,List.find?_cons_of_pos (by simp[h1,h2])]
   have hstep':¬((L[k]'hkx).1=s∧(L[k]'hkx).2<n)→BD (L.drop (k+1)) s n=fin:=fun hn=>by rw[←hstep (fun _=>hn)];exact hF.out
   rw[hF.out]at hit;generalize L[k].1=nm at c1 hit hstep';generalize L[k].2=pl at c2 hit hstep';have hk0':(0:Int)≤(k:Int):=by omega
   have hk1:(k:Int)<(m:Int):=by omega
   have hkw:IntKind.i64.wrap ((k:Int)+1)=(k:Int)+1:=by rw[IntKind.wrap_i64];omega
   have hb2:=Az (hB.out.alloc hB.out.size (.cells #[.string ⟨nm.toArray⟩,.int .i64 (pl:Int)] 112));replace hstep':=Az hstep';replace hit:=Az hit;clear hcell hv e1 e2 hF hstep;by_cases hn:nm=s
   ·subst hn;have hq:(nm==nm)=true:=beq_self_eq_true nm;by_cases hp:pl<n
    ·have hp':(pl:Int)<(n:Int):=by omega
     have hfin:fin=(pl:Int):=hit.out rfl hp;subst hfin;clear hit hstep';go_wp2;go_ret;exact⟨rfl,hb2.out⟩
    ·have hp':¬(pl:Int)<(n:Int):=by omega
     replace hstep':=Az (hstep'.out (fun h=>hp h.2));clear hit;go_wp2;go_roundw
     case rel=>exact⟨k+1,by go_num,hlt,hstep',hb2⟩
     case measure=>simp[intOf];omega
   ·have hq:(nm==s)=false:=Bq hn;replace hstep':=Az (hstep'.out (fun h=>hn h.1));clear hit;go_wp2;go_roundw
    case rel=>exact⟨k+1,by go_num,hlt,hstep',hb2⟩
    case measure=>simp[intOf];omega
  ·obtain rfl:k=m:=by omega
   have hge:¬(k:Int)<(k:Int):=by omega
   have hfin:fin = -1:=by rw[←hF.out,List.drop_eq_nil_of_le (by rw[hk0.out];exact Nl _)];rfl
   subst hfin;go_wp2;go_ret;exact⟨rfl,hB.out⟩
end
end Go.Proofs.YtjjpiefgdggghaaGreatDoor

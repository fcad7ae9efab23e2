/- Parts: Cells, Pool0, New. -/
import Derived.Test.YtnmahobjmpdkdaaGreatDoorQ02
import Derived.Test.YtnmahobjmpdkdaaGreatDoorQ15
import Derived.Test.YtnmahobjmpdkdaaGreatDoorQ05
set_option linter.unusedVariables false
set_option linter.unusedSimpArgs false
set_option maxRecDepth 100000
set_option maxHeartbeats 40000000
namespace Go.Proofs.YtnmahobjmpdkdaaGreatDoor
section
open Go.RowKit Go.Proofs.YtnmahobjmpdkdaaGreatDoorW.PrintWords
theorem V9:(Tryz.prog.info? 106).map (fun i=>(i.zero,i.size,i.bytes))=some (some (.agg #[.int .i64 0,.int .i64 0]),2,16):=by kernel_rfl
section
variable {ops:Array Oper} {rest:List Oper} {o:Oper} {a:Act} {Q:Exit→Act→World→Prop} {W:World}
theorem Xy(hgd:o.guard=none)(s x:Operand)(ho:o.op=.call {callee:=.builtin .append,args:=#[s,x],argTypes:=#[62,62]})
  (base g:Nat)(y:Nat×Nat)(v:Value)(xs:List (Nat×Nat))(hs:a.eval s=v)(hr:Dl W base v xs)(hx:a.eval x=.slice (some ⟨g,0,none⟩) 1 1)
  (hy:W.heap[g]?=some (.cells #[.int .i64 (y.1:Int),.int .i64 (y.2:Int)] 106 (0,0)))(hl:xs.length≤1000000)(hb:base≤W.heap.size)
  (h:∀ v' W1,Dl W1 base v' (xs++[y])→W.grownBy W1 v.ownBlock→wpList Tryz.prog ops Q rest (a.put o.dst v') W1) :
  wpList Tryz.prog ops Q (o::rest) a W:=by
 obtain⟨i9,hi,hz0,hz1,hz2⟩:=info_parts V9;refine wpList_append_own_at _ hgd s x 62 ho base 106 i9 (.agg #[.int .i64 0,.int .i64 0]) 2 16 Tryz.underlying62 hi hz0 hz1 hz2 rfl (by decide) v xs.length (DW xs) hs hr ⟨g,0,none⟩ 1 1 [.int .i64 (y.1:Int),.int .i64 (y.2:Int)] hx rfl ?_ ?_ ?_ ?_ hb ?_
 ·intro j u hj;rw[add_plain];exact(Bc hy j).trans (by simpa using hj)
 ·intro u hu;simp at hu;rcases hu with rfl |rfl<;>rfl
 ·simp[maxLen];omega
 ·omega
 ·intro v' W1 h1 h2 _ h4;refine h v' W1 ?_ h2;unfold Dl;rw[show DW (xs++[y])=DW xs++[.int .i64 (y.1:Int),.int .i64 (y.2:Int)] by simp[DW],List.length_append];exact h1
end
theorem J8{W:World}{base n size:Nat}{e:TypeId}{v:Value}{xs:List Value}(h:W.ownsRow base e size v n xs):∃ A c,v=.slice A n c:=by
 rcases h.2 with ⟨rfl,h0⟩ |⟨g,cap,cur,rfl,_⟩
 ·exact⟨none,0,by rw[h0]⟩
 ·exact⟨_,_,rfl⟩
theorem GV:∀ (l:List Nat) (k s:Nat),B2 k (l++[s])=B2 k l++(List.range s).map (fun i=>(k+l.length,i))
 |[],k,s=>by simp[B2]
 |x::l,k,s=>by
  rw[List.cons_append,B2,GV l,B2,List.append_assoc,List.length_cons];rw[show k+1+l.length=k+(l.length+1) by omega]
theorem PR{ss:List Nat}{a:Nat}(h:a<ss.length):B2 0 (ss.take (a+1))=B2 0 (ss.take a)++(List.range (ss.getD a 0)).map (fun i=>(a,i)):=by
 rw[List.take_succ_eq_append_getElem h,GV,List.length_take,Nat.min_eq_left (by omega),Nat.zero_add,List.getD_eq_getElem?_getD,List.getElem?_eq_getElem h];rfl
theorem Hp:∀ (l:List Nat) (k:Nat),(B2 k l).length=l.sum
 |[],_=>rfl
 |x::l,k=>by simp[B2,Hp l]
theorem Jv(W:World)(vs:Value)(ss:List Nat)(hs:Cj W vs ss.length (ss.map fun s:Nat=>Value.int .i64 (s:Int)))(h8:ss.length≤8)(hle:∀ s∈ss,s≤4096)(DP:ss.sum≤8192) :
  Calls Tryz.prog 42 #[vs] W fun e W'=>∃ v,e=.returned (.tuple #[v,.bool true])∧Dl W' W.heap.size v (AG ss)∧Below W.heap.size W W':=by
 obtain⟨A,c,rfl⟩:=hs.slice;obtain⟨m,hm⟩:∃ m,ss.length=m:=⟨_,rfl⟩
 obtain⟨fin,hfin⟩:∃ z,AG ss=z:=⟨_,rfl⟩
 have hfl:fin.length≤8192:=by rw[←hfin];unfold AG;rw[Hp];exact DP
 rw[hm]at hs h8 ⊢;rw[hfin];have m8:¬(8:Int)<(m:Int):=by omega
 replace hm:=Az hm;replace hs:=Az hs;replace hfin:=Az hfin;replace hle:=Az hle;replace DP:=Az DP;go_enter Tryz.func42,Tryz.ntmps42;go_wp2_with fail
 go_loopw [4,13] (fun v4 v13 wr=>∃ (k:Nat),v13=.int .i64 (k:Int)∧k≤m∧Af (Dl wr W.heap.size v4 (B2 0 (ss.take k)))∧Af (Below W.heap.size W wr)) (fun _ v13 _=>m-(intOf v13).toNat)
 case atStart=>exact⟨0,rfl,Nat.zero_le _,⟨⟨rfl,.inl ⟨rfl,rfl⟩⟩⟩,⟨Below.refl _ _⟩⟩
 case round =>
  obtain⟨k,rfl,hk,hR,hB⟩:=hrel;clear m8;by_cases hlt:k<m
  ·have hkl:k<ss.length:=by rw[hm.out];exact hlt
   obtain⟨g,c',hvs,hcell⟩:=(hs.out.keep hB.out).cells (by omega);cases hvs;have ck:=hcell k (.int .i64 ((ss.getD k 0:Nat):Int)) (by simp[hkl,List.getD_eq_getElem?_getD]);have hct:=PR hkl;have hsl:ss.getD k 0≤4096:=hle.out _ (by rw[List.getD_eq_getElem?_getD,List.getElem?_eq_getElem hkl];exact List.getElem_mem _);have hpre:(B2 0 (ss.take (k+1))).length≤8192:=by
    rw[Hp];have h1:ss.sum=(ss.take (k+1)).sum+(ss.drop (k+1)).sum:=by rw[←List.sum_append,List.take_append_drop]
    have:=DP.out;omega
   generalize ss.getD k 0=s at ck hct hsl;rw[hct]at hpre;rw[List.length_append,List.length_map,List.length_range]at hpre;have s0:¬(s:Int)<0:=by omega
   have s1:¬(4096:Int)<(s:Int):=by omega
   have k0:(0:Int)≤(k:Int):=by omega
   have k1:(k:Int)<(m:Int):=by omega
   have nw:IntKind.i64.wrap ((k:Int)+1)=(k:Int)+1:=by rw[IntKind.wrap_i64];omega
   replace hct:=Az hct;clear hcell;go_wp2_with fail
   go_loopw [4,7] (fun v4 v7 wr=>∃ (i:Nat),v7=.int .i64 (i:Int)∧i≤s∧Af (Dl wr W.heap.size v4 (B2 0 (ss.take k)++(List.range i).map (fun j=>(k,j))))∧Af (Below W.heap.size W wr)) (fun _ v7 _=>s-(intOf v7).toNat)
   case atStart=>exact⟨0,rfl,Nat.zero_le _,⟨by simpa using hR.out⟩,hB⟩
   case round =>
    obtain⟨i,rfl,hi,hRi,hBi⟩:=hrel;clear ck s0 s1;by_cases JW:i<s
    ·have i1:(i:Int)<(s:Int):=by omega
     have iw:IntKind.i64.wrap ((i:Int)+1)=(i:Int)+1:=by rw[IntKind.wrap_i64];omega
     have hbl:=Bw wr (.cells #[.int .i64 (k:Int),.int .i64 (i:Int)] 106);have hR2:Dl (wr.alloc (.cells #[.int .i64 (k:Int),.int .i64 (i:Int)] 106)) W.heap.size _ _:=Om hRi.out (fun k hk=>hbl.block k (Ol hRi.out k hk));have hsz:=hBi.out.size;have hll:(B2 0 (ss.take k)++(List.range i).map (fun j=>(k,j))).length≤1000000:=by
      rw[List.length_append,List.length_map,List.length_range];omega
     replace hbl:=Az (hBi.out.trans (hbl.mono hsz));replace hR2:=Az hR2;go_wp2_with (at_builtin;refine Xy rfl (.tmp 29) (.tmp 33) rfl W.heap.size wr.heap.size (k,i) _ _ rfl hR2.out rfl (Bv _ _) hll ?hb3 ?_)
     case hb3=>simp;omega
     rintro v3 W3 hr3 hg3;have hb3:=hbl.out.grown hg3 (by simp;omega) (fun k hk=>Ob hR2.out k hk);rw[show(List.range i).map (fun j=>(k,j))++[(k,i)]=(List.range (i+1)).map (fun j=>(k,j)) by rw[List.range_succ,List.map_append];rfl]at hr3;replace hr3:=Az hr3;replace hb3:=Az hb3;clear hR2 hg3 hbl;go_wp2;go_roundw
     case rel=>exact⟨i+1,by go_num,JW,hr3,hb3⟩
     case measure=>simp[intOf];omega
    ·obtain rfl:i=s:=by omega
     have i1:¬(i:Int)<(i:Int):=by omega
     have hRk:=hRi.out;rw[←hct.out]at hRk;replace hRk:=Az hRk;go_wp2;go_roundw
     case rel=>exact⟨k+1,by go_num,hlt,hRk,hBi⟩
     case measure=>simp[intOf];omega
  ·obtain rfl:k=m:=by omega
   have n1:¬(k:Int)<(k:Int):=by omega
   have hRk:=hR.out;rw[←hm.out,List.take_length,show B2 0 ss=fin from hfin.out]at hRk;obtain⟨A3,c3,rfl⟩:=J8 hRk;replace hRk:=Az hRk;have fl:(fin.length:Int)≤8192:=by omega
   go_wp2;go_ret2
   exact⟨_,rfl,hRk.out,hB.out⟩
theorem Vs:(Tryz.prog.info? 27).map (fun i=>(i.zero,i.size,i.bytes))=some (some (.slice none 0 0),1,24):=by kernel_rfl
def IQ(W:World)(base:Nat)(v:Value)(k:Nat):Prop:=W.ownsRow base 27 1 v k (List.replicate k (.slice none 0 0))
section
variable {ops:Array Oper} {rest:List Oper} {o:Oper} {a:Act} {Q:Exit→Act→World→Prop} {W:World}
theorem Vt(hgd:o.guard=none)(s x:Operand)(ho:o.op=.call {callee:=.builtin .append,args:=#[s,x],argTypes:=#[116,116]})
  (base g:Nat)(v:Value)(k:Nat)(hs:a.eval s=v)(hr:IQ W base v k)(hx:a.eval x=.slice (some ⟨g,0,none⟩) 1 1)
  (hy:W.heap[g]?=some (.cells #[.slice none 0 0] 27 (0,0)))(hl:k≤1000000)(hb:base≤W.heap.size)
  (h:∀ v' W1,IQ W1 base v' (k+1)→W.grownBy W1 v.ownBlock→wpList Tryz.prog ops Q rest (a.put o.dst v') W1) :
  wpList Tryz.prog ops Q (o::rest) a W:=by
 obtain⟨i9,hi,hz0,hz1,hz2⟩:=info_parts Vs;refine wpList_append_own_at _ hgd s x 116 ho base 27 i9 (.slice none 0 0) 1 24 Tryz.underlying116 hi hz0 hz1 hz2 rfl (by decide) v k (List.replicate k (.slice none 0 0)) hs hr ⟨g,0,none⟩ 1 1 [.slice none 0 0] hx rfl ?_ ?_ ?_ ?_ hb ?_
 ·intro j u hj;rw[add_plain];exact(Bc hy j).trans (by simpa using hj)
 ·intro u hu;simp at hu;subst hu;rfl
 ·simp[maxLen];omega
 ·omega
 ·intro v' W1 h1 h2 _ h4;refine h v' W1 ?_ h2;unfold IQ;rw[List.replicate_succ'];exact h1
end
theorem Oi(W:World)(n:Nat)(h1:1≤n)(h2:n≤64) :
  Calls Tryz.prog 82 #[.int .i64 (n:Int),.int .i64 0] W fun e W'=>∃ g,e=.returned (.pointer (some ⟨g,0,none⟩))∧Below W.heap.size W W':=by
 have a1:¬(n:Int)<1:=by omega
 have a2:¬(64:Int)<(n:Int):=by omega
 have hb0:=Bw W (.cells #[.int .i64 0,.slice none 0 0,.slice none 0 0,.slice none 0 0] 118);have hn0:=Bv W (.cells #[.int .i64 0,.slice none 0 0,.slice none 0 0,.slice none 0 0] 118);replace hb0:=Az hb0;replace hn0:=Az hn0;go_enter Tryz.func82,Tryz.ntmps82;go_wp2_with fail
 go_loopw [6] (fun v6 wr=>∃ (k:Nat) (vf:Value),v6=.int .i64 (k:Int)∧k≤n∧Af (wr.heap[W.heap.size]?=some (.cells #[.int .i64 0,vf,.slice none 0 0,.slice none 0 0] 118 (0,0)))∧Af (IQ wr W.heap.size vf k)∧Af (Below W.heap.size W wr)) (fun v6 _=>n-(intOf v6).toNat)
 case atStart=>exact⟨0,.slice none 0 0,rfl,Nat.zero_le _,hn0,⟨⟨rfl,.inl ⟨rfl,rfl⟩⟩⟩,hb0⟩
 case round =>
  obtain⟨k,vf,rfl,hk,hn,hR,hB⟩:=hrel;clear hn0 hb0 a1 a2;by_cases hlt:k<n
  ·have k1:(k:Int)<(n:Int):=by omega
   have kw:IntKind.i64.wrap ((k:Int)+1)=(k:Int)+1:=by rw[IntKind.wrap_i64];omega
   have hbl:=Bw wr (.cells #[.slice none 0 0] 27);have hR2:IQ (wr.alloc (.cells #[.slice none 0 0] 27)) W.heap.size vf k:=Om hR.out (fun k hk=>hbl.block k (Ol hR.out k hk));have hn2:=Bk hbl hn.out;have hsz:=hB.out.size;have c1:wr.cell? ⟨W.heap.size,1,none⟩=some vf:=(Bc hn.out 1).trans rfl;have z0:W.heap.size<wr.heap.size:=Bl hn.out;replace hbl:=Az (hB.out.trans (hbl.mono hsz));replace hR2:=Az hR2;replace hn2:=Az hn2;clear hn;go_wp2_with fail
   go_loopw [7,8] (fun v7 v8 wi=>v7=.slice none 0 0∧v8=.int .i64 1∧wi=wr) (fun _ v8 _=>0)
   case atStart=>exact⟨rfl,rfl,rfl⟩
   case round =>
    obtain⟨rfl,rfl,hw⟩:=hrel;subst hw;go_wp2_with (at_builtin;refine Vt rfl (.tmp 66) (.tmp 68) rfl W.heap.size wr.heap.size vf k rfl hR2.out rfl (Bv _ _) ?hl3 ?hb3 ?_)
    case hl3=>omega
    case hb3=>simp;omega
    rintro v3 W3 hr3 hg3;have hb3:=hbl.out.grown hg3 (by simp;omega) (fun k hk=>Ob hR2.out k hk);have hn3:=Bg hn2.out hg3 (Oa hR2.out hn2.out (by decide));have f3:=Bf hn3 1;have c3:W3.cell? ⟨W.heap.size,1,none⟩=some vf:=(Bc hn3 1).trans rfl;have hn4:=Bs hn3 1 v3;have hr4:IQ _ W.heap.size v3 (k+1):=Rs hr3 hn3 (by decide) 1 v3;have hb4:=hb3.setCell (p:=⟨W.heap.size,1,none⟩) (Nl _) v3;obtain⟨A3,n3,c3',rfl⟩:=AK hr3;replace hn4:=Az hn4;replace hr4:=Az hr4;replace hb4:=Az hb4;clear hr3 hg3 hn3 hb3 hR2 hbl hn2;go_wp2;go_roundw
    case rel=>exact⟨k+1,_,by go_num,hlt,hn4,hr4,hb4⟩
    case measure=>simp[intOf];omega
  ·obtain rfl:k=n:=by omega
   have n1:¬(k:Int)<(k:Int):=by omega
   go_wp2;go_ret;exact⟨⟨_,rfl⟩,hB.out⟩
section
variable {ops:Array Oper} {o:Oper} {a:Act} {K:Act→World→Prop} {Q:Exit→Act→World→Prop} {E:Prop} {W:World}
theorem Tf:(Tryz.prog.info? 22).map (fun i=>(i.zero,i.size,i.bytes))=some (some (.int .u32 0),1,4):=by kernel_rfl
theorem Tg(hgd:o.guard=none)(s x:Operand)(ho:o.op=.call {callee:=.builtin .append,args:=#[s,x],argTypes:=#[28,28]})
  (base g c:Nat)(v:Value)(xs ys:List Nat)(hs:a.eval s=v)(hr:Eu W base v xs)(hx:a.eval x=.slice (some ⟨g,0,none⟩) ys.length c)(hy:∀ j u,(ys.map fun v:Nat=>Value.int .u32 v)[j]?=some u→W.cell? ⟨g,j,none⟩=some u)
  (hl:xs.length+ys.length≤1000000)(hb:base≤W.heap.size)
  (h:∀ v' W1,Eu W1 base v' (xs++ys)→W.grownBy W1 v.ownBlock→K (a.put o.dst v') W1) :
  if Region.wanted o (yielded ops a.tmps)=true then Oper.wp Tryz.prog o a W K Q else E:=by
 rw[if_pos (by simp[Region.wanted,hgd])];obtain⟨i9,hi,hz0,hz1,hz2⟩:=info_parts Tf;obtain⟨v',w',hr',h2,h3,h4,h5⟩:=run_append_own_at (P:=Tryz.prog) W base 28 o.type 22 i9 (.int .u32 0) 1 4 Tryz.underlying28 hi hz0 hz1 hz2 rfl (by decide) v xs.length (xs.map fun x:Nat=>Value.int .u32 x) hr ⟨g,0,none⟩ ys.length c (ys.map fun x:Nat=>Value.int .u32 x) (by simp)
  (fun j u hj=>by rw[add_plain];exact hy j u hj) (by intro u hu;simp at hu;obtain⟨x,_,rfl⟩:=hu;rfl) (by simp[maxLen];omega) (by omega) hb
 unfold Oper.wp execOp;simp only[ho,resolve,invoke,builtin,Sem.run_bind,Sem.run_pure,Result.andThen_ok,List.map_toArray,List.map_cons,List.map_nil,hs,hx,hr'];refine h _ _ ?_ h3;unfold Eu;rw[List.map_append,List.length_append];exact h2
theorem Th(hgd:o.guard=none)(x:Operand)(ho:o.op=.buildSlice 78 1 #[(0,x)])(r7:Nat)(hx:a.eval x=.agg #[.int .i64 0,.int .i64 0,.int .i64 0,.int .i64 0,.int .i64 0,.int .i64 0,.int .i64 0,.int .i64 (r7:Int),.int .i64 0])
  (h:∀ g W1,Below W.heap.size W W1→W1.heap[g]?=some (.cells #[.int .i64 0,.int .i64 0,.int .i64 0,.int .i64 0,.int .i64 0,.int .i64 0,.int .i64 0,.int .i64 (r7:Int),.int .i64 0] 133 (0,0))→K (a.put o.dst (.slice (some ⟨g,0,none⟩) 1 1)) W1) :
  if Region.wanted o (yielded ops a.tmps)=true then Oper.wp Tryz.prog o a W K Q else E:=by
 rw[if_pos (by simp[Region.wanted,hgd])];obtain⟨i9,hi,hz0,hz1,hz2⟩:=info_parts Ml;refine wp_buildSlice 78 133 1 _ ho #[.int .i64 0,.int .i64 0,.int .i64 0,.int .i64 0,.int .i64 0,.int .i64 0,.int .i64 0,.int .i64 (r7:Int),.int .i64 0] i9 (.agg K1) Tryz.underlying78 hi hz0 (by rw[hz1];decide) (by rw[hz1];decide) ?_ (h _ _ (Bw W _) (Bv _ _));rw[hz1];simp only[List.map_toArray,List.map_cons,List.map_nil,hx]
 kernel_rfl
theorem Ti(hgd:o.guard=none)(s x:Operand)(ho:o.op=.call {callee:=.builtin .append,args:=#[s,x],argTypes:=#[78,78]})
  (base g r7:Nat)(v:Value)(xs:List CoreM)(hs:a.eval s=v)(hr:ED W base v xs)(hx:a.eval x=.slice (some ⟨g,0,none⟩) 1 1)
  (hy:W.heap[g]?=some (.cells #[.int .i64 0,.int .i64 0,.int .i64 0,.int .i64 0,.int .i64 0,.int .i64 0,.int .i64 0,.int .i64 (r7:Int),.int .i64 0] 133 (0,0)))(hl:xs.length≤1000000)(hb:base≤W.heap.size)
  (h:∀ v' W1,ED W1 base v' (xs++[⟨[0,0,0,0,0,0,0,r7],0⟩])→W.grownBy W1 v.ownBlock→K (a.put o.dst v') W1) :
  if Region.wanted o (yielded ops a.tmps)=true then Oper.wp Tryz.prog o a W K Q else E:=by
 obtain⟨i9,hi,hz0,hz1,hz2⟩:=info_parts Ml;refine FO hgd s x 78 ho base 133 i9 (.agg K1) 9 72 Tryz.underlying78 hi hz0 hz1 hz2 rfl (by decide) v xs.length (Cy xs) hs hr g _ (0,0) hx hy rfl ?_ hl (by decide) hb ?_
 ·intro u hu;simp at hu;rcases hu with rfl |rfl |rfl |rfl |rfl |rfl |rfl |rfl |rfl<;>rfl
 ·intro v' W1 h1 h2 h4;refine h v' W1 ?_ h2;unfold ED;rw[GG,List.length_append];exact h1
end
structure R9 (w W:World) (px:Nat) (vl vc vw vr:Value) (pl:Option Addr) (pg:Pg) (cells:List (Nat×Nat)) (words:List Nat) (AQ:List CoreM):Prop where
 b:Below w.heap.size w W
 LA:w.heap.size≤px
 bx:W.heap[px]?=some (.cells #[vl,.int .i64 pg.lock,.int .i64 pg.unlock,vc,vw,.pointer pl,vr,.int .i64 0] 80 (0,0))
 cells:Dl W w.heap.size vc cells
 words:Eu W w.heap.size vw words
 AQ:ED W w.heap.size vr AQ
theorem R9.hz{w W:World}{px:Nat}{vl vc vw vr:Value}{pl:Option Addr}{pg:Pg}{cells:List (Nat×Nat)}{words:List Nat}{AQ:List CoreM}(h:R9 w W px vl vc vw vr pl pg cells words AQ):w.heap.size≤W.heap.size:=h.b.size
theorem R9.keep{w W W1:World}{px:Nat}{vl vc vw vr:Value}{pl:Option Addr}{pg:Pg}{cells:List (Nat×Nat)}{words:List Nat}{AQ:List CoreM}(h:R9 w W px vl vc vw vr pl pg cells words AQ)(hb:Below W.heap.size W W1):R9 w W1 px vl vc vw vr pl pg cells words AQ :=
 ⟨h.b.trans (hb.mono h.hz),h.LA,Bk hb h.bx,Om h.cells (fun k hk=>hb.block k (Ol h.cells k hk)),Om h.words (fun k hk=>hb.block k (Ol h.words k hk)),Om h.AQ (fun k hk=>hb.block k (Ol h.AQ k hk))⟩
theorem R9.Rq{w W W1:World}{px:Nat}{vl vc vw vr v:Value}{pl:Option Addr}{pg:Pg}{cells:List (Nat×Nat)}{words words':List Nat}{AQ:List CoreM}(h:R9 w W px vl vc vw vr pl pg cells words AQ)(hr:Eu W1 w.heap.size v words')(hg:W.grownBy W1 vw.ownBlock) :
  R9 w (W1.setCell ⟨px,4,none⟩ v) px vl vc v vr pl pg cells words' AQ:=by
 have hb:=h.b.grown hg h.hz (fun k hk=>Ob h.words k hk);have hx:=Bg h.bx hg (Oa h.words h.bx (by decide));have h1:Dl W1 w.heap.size vc cells:=Cm h.cells h.words (by decide) hg;have h2:ED W1 w.heap.size vr AQ:=Cm h.AQ h.words (by decide) hg;exact⟨hb.setCell (p:=⟨px,4,none⟩) h.LA v,h.LA,Bs hx 4 v,Rs h1 hx (by decide) 4 v,Rs hr hx (by decide) 4 v,Rs h2 hx (by decide) 4 v⟩
theorem R9.MD{w W W1:World}{px:Nat}{vl vc vw vr v:Value}{pl:Option Addr}{pg:Pg}{cells:List (Nat×Nat)}{words:List Nat}{AQ cores':List CoreM}(h:R9 w W px vl vc vw vr pl pg cells words AQ)(hr:ED W1 w.heap.size v cores')(hg:W.grownBy W1 vr.ownBlock) :
  R9 w (W1.setCell ⟨px,6,none⟩ v) px vl vc vw v pl pg cells words cores':=by
 have hb:=h.b.grown hg h.hz (fun k hk=>Ob h.AQ k hk);have hx:=Bg h.bx hg (Oa h.AQ h.bx (by decide));have h1:Dl W1 w.heap.size vc cells:=Cm h.cells h.AQ (by decide) hg;have h2:Eu W1 w.heap.size vw words:=Cm h.words h.AQ (by decide) hg;exact⟨hb.setCell (p:=⟨px,6,none⟩) h.LA v,h.LA,Bs hx 6 v,Rs h1 hx (by decide) 6 v,Rs h2 hx (by decide) 6 v,Rs hr hx (by decide) 6 v⟩
theorem Oh(W:World)(vl vs vi vr:Value)(pg:Pg)(ss is rs:List Nat)(n:Nat)(hl:Cj W vl pg.l.length (Bu pg.l))(hs:Cj W vs ss.length (ss.map fun s:Nat=>Value.int .i64 (s:Int)))
  (hi:Cj W vi is.length (is.map fun v:Nat=>Value.int .u32 v))(hr:Cj W vr rs.length (rs.map fun v:Nat=>Value.int .u32 v))(h8:ss.length≤8)(hle:∀ s∈ss,s≤4096)(DP:ss.sum≤8192)
  (h1:1≤n)(h2:n≤64)(NW:0<is.length)(hi1:is.length≤100000)(hr1:rs.length≤1000)(Q8:∀ v∈is,v<4294967296)(Tb:∀ v∈rs,v<4294967296) :
  Calls Tryz.prog 66 #[.agg #[vl,.int .i64 pg.lock,.int .i64 pg.unlock,vs,vi,.int .i64 0,vr],.int .i64 (n:Int)] W fun e W'=>∃ px vc vw vo pl,e=.returned (.pointer (some ⟨px,0,none⟩))∧Dm W W' px vl vc vw vo pl (AM.new pg ss is n 0 rs):=by
 have hb0:=Bw W (.cells #[vl,.int .i64 pg.lock,.int .i64 pg.unlock,vs,vi,.int .i64 0,vr] 30);have hC:=Az (Jv _ vs ss (hs.keep hb0) h8 hle DP);have hN:=Bv W (.cells #[vl,.int .i64 pg.lock,.int .i64 pg.unlock,vs,vi,.int .i64 0,vr] 30);have hP:=Az (fun W=>Oi W n h1 h2);obtain⟨gi,ci,rfl,hic⟩:=hi.cells NW;obtain⟨Ar,cr,rfl⟩:=hr.slice;obtain⟨As,cs,rfl⟩:=hs.slice;obtain⟨Al,cl,rfl⟩:=hl.slice;have hsz0:W.heap.size<(W.alloc (.cells #[.slice Al pg.l.length cl,.int .i64 pg.lock,.int .i64 pg.unlock,.slice As ss.length cs,.slice (some ⟨gi,0,none⟩) is.length ci,.int .i64 0,.slice Ar rs.length cr] 30)).heap.size:=by simp
 obtain⟨W1,hW1⟩:∃ X,W.alloc (.cells #[.slice Al pg.l.length cl,.int .i64 pg.lock,.int .i64 pg.unlock,.slice As ss.length cs,.slice (some ⟨gi,0,none⟩) is.length ci,.int .i64 0,.slice Ar rs.length cr] 30)=X:=⟨_,rfl⟩
 rw[hW1]at hb0 hC hN hsz0;obtain⟨fin,hfin⟩:∃ x,AM.new pg ss is n 0 rs=x:=⟨_,rfl⟩
 obtain⟨cells,hcells⟩:∃ x,AG ss=x:=⟨_,rfl⟩
 obtain⟨ml,hml⟩:∃ x,pg.l.length=x:=⟨_,rfl⟩
 obtain⟨ms,hms⟩:∃ x,ss.length=x:=⟨_,rfl⟩
 obtain⟨mi,hmi⟩:∃ x,is.length=x:=⟨_,rfl⟩
 obtain⟨mr,hmr⟩:∃ x,rs.length=x:=⟨_,rfl⟩
 rw[hfin,hml,hms,hmi,hmr];rw[hml,hms,hmi,hmr]at hW1 hN;rw[hms,hcells]at hC;rw[hmi]at NW hi1;rw[hmr]at hr1;replace hl:=Az hl;replace hr:=Az hr;replace hic:=Az hic;replace hb0:=Az hb0;replace hfin:=Az hfin;replace hml:=Az hml;replace hmi:=Az hmi;replace hmr:=Az hmr;replace hcells:=Az hcells;have n3:W1.cell? ⟨W.heap.size,3,none⟩=some (.slice As ms cs):=(Bc hN 3).trans rfl;replace hN:=Az hN;replace Q8:=Az Q8;replace Tb:=Az Tb;clear hs hi h8 hle DP hms;go_enter Tryz.func66,Tryz.ntmps66;go_wp2_with fail
 try rw[hW1]
 clear hW1;refine hC.out.mono ?_;rintro e w2 ⟨vc,rfl,hcl,hb2⟩;replace hN:=Az (Bk hb2 hN.out);obtain⟨Ac,nc,cc,rfl⟩:=AK hcl;replace hcl:Dl w2 W.heap.size _ cells:=FP hcl (by omega);replace hb0:=Az (hb0.out.trans (hb2.mono (by omega)));replace hcl:=Az hcl;clear hC hb2 n3;go_upto_region 2 with fail
 have hS5:(fun W'=>W'.cell? ⟨W.heap.size,0,none⟩=some (.slice Al ml cl)∧W'.cell? ⟨W.heap.size,1,none⟩=some (.int .i64 pg.lock)∧W'.cell? ⟨W.heap.size,2,none⟩=some (.int .i64 pg.unlock)∧W'.cell? ⟨W.heap.size,5,none⟩=some (.int .i64 0)) w2.drew:=⟨(Bc (Be hN.out) 0).trans rfl,(Bc (Be hN.out) 1).trans rfl,(Bc (Be hN.out) 2).trans rfl,(Bc (Be hN.out) 5).trans rfl⟩
 refine Ay [] (S:=fun W'=>W'.cell? ⟨W.heap.size,0,none⟩=some (.slice Al ml cl)∧W'.cell? ⟨W.heap.size,1,none⟩=some (.int .i64 pg.lock)∧W'.cell? ⟨W.heap.size,2,none⟩=some (.int .i64 pg.unlock)∧W'.cell? ⟨W.heap.size,5,none⟩=some (.int .i64 0)) (by kernel_rfl) hS5 (fun hS0=>?_);clear hS5;try simp only[Act.put,Sa,Sb,Sc]
 refine tY 0 (fun _=>hS0) ?_;refine tL 1 (hS0) ?_;refine tY 2 (fun _=>hS0) ?_;refine tY 3 (fun _=>hS0) ?_;refine tY 4 (fun _=>hS0) ?_;refine tL 5 (hS0) ?_;refine Ab (rs:=[6]) (by kernel_rfl) (by simp) ?_;refine Aa.cons (An rfl) (fun K hK=>?_) Aa.nil;go_simp
 go_at_call 82
 refine(hP.out _).mono ?_;rintro e w3 ⟨gp,rfl,hb3⟩;have hbd:=(Bd (Below.refl _ w2)).trans hb3;replace hS0:w3.cell? ⟨W.heap.size,0,none⟩=some (.slice Al ml cl)∧w3.cell? ⟨W.heap.size,1,none⟩=some (.int .i64 pg.lock)∧w3.cell? ⟨W.heap.size,2,none⟩=some (.int .i64 pg.unlock)∧w3.cell? ⟨W.heap.size,5,none⟩=some (.int .i64 0):=⟨Ck hb3 hS0.1,Ck hb3 hS0.2.1,Ck hb3 hS0.2.2.1,Ck hb3 hS0.2.2.2⟩
 replace hN:=Az (Bk hbd hN.out);replace hcl:=Az (show Dl w3 W.heap.size _ cells from Om hcl.out (fun k hk=>hbd.block k (Ol hcl.out k hk)));replace hb0:=Az (hb0.out.trans (hbd.mono hb0.out.size));clear hP hb3 hbd;go_wp2_with fail
 refine hK.out _ _ (fun _=>hS0) (fun _=>?_);clear hK;try simp only[Act.put,Sa,Sb,Sc]
 refine tY 7 (fun _=>hS0) ?_;refine Ab (rs:=[8]) (by kernel_rfl) (by simp) ?_;refine Aa.cons (An rfl) (fun K hK=>?_) Aa.nil;have hbx:=Bw w3 (.cells #[.slice Al ml cl,.int .i64 pg.lock,.int .i64 pg.unlock,.slice Ac nc cc,.slice none 0 0,.pointer (some ⟨gp,0,none⟩),.slice none 0 0,.int .i64 0] 80);have hI:R9 W (w3.alloc (.cells #[.slice Al ml cl,.int .i64 pg.lock,.int .i64 pg.unlock,.slice Ac nc cc,.slice none 0 0,.pointer (some ⟨gp,0,none⟩),.slice none 0 0,.int .i64 0] 80)) w3.heap.size (.slice Al ml cl) (.slice Ac nc cc) (.slice none 0 0) (.slice none 0 0) (some ⟨gp,0,none⟩) pg cells [] [] :=
  ⟨hb0.out.trans (hbx.mono hb0.out.size),hb0.out.size,Bv _ _,Om hcl.out (fun k hk=>hbx.block k (Ol hcl.out k hk)),⟨rfl,.inl ⟨rfl,rfl⟩⟩,⟨rfl,.inl ⟨rfl,rfl⟩⟩⟩
 replace hI:=Az hI;replace hN:=Az (Bk hbx hN.out);have hS1:(w3.alloc (.cells #[.slice Al ml cl,.int .i64 pg.lock,.int .i64 pg.unlock,.slice Ac nc cc,.slice none 0 0,.pointer (some ⟨gp,0,none⟩),.slice none 0 0,.int .i64 0] 80)).cell? ⟨W.heap.size,0,none⟩=some (.slice Al ml cl)∧(w3.alloc (.cells #[.slice Al ml cl,.int .i64 pg.lock,.int .i64 pg.unlock,.slice Ac nc cc,.slice none 0 0,.pointer (some ⟨gp,0,none⟩),.slice none 0 0,.int .i64 0] 80)).cell? ⟨W.heap.size,1,none⟩=some (.int .i64 pg.lock)∧(w3.alloc (.cells #[.slice Al ml cl,.int .i64 pg.lock,.int .i64 pg.unlock,.slice Ac nc cc,.slice none 0 0,.pointer (some ⟨gp,0,none⟩),.slice none 0 0,.int .i64 0] 80)).cell? ⟨W.heap.size,2,none⟩=some (.int .i64 pg.unlock)∧(w3.alloc (.cells #[.slice Al ml cl,.int .i64 pg.lock,.int .i64 pg.unlock,.slice Ac nc cc,.slice none 0 0,.pointer (some ⟨gp,0,none⟩),.slice none 0 0,.int .i64 0] 80)).cell? ⟨W.heap.size,5,none⟩=some (.int .i64 0):=⟨Ck hbx hS0.1,Ck hbx hS0.2.1,Ck hbx hS0.2.2.1,Ck hbx hS0.2.2.2⟩
 replace hS1:=Az hS1;obtain⟨w4,hw4⟩:∃ X,w3.alloc (.cells #[.slice Al ml cl,.int .i64 pg.lock,.int .i64 pg.unlock,.slice Ac nc cc,.slice none 0 0,.pointer (some ⟨gp,0,none⟩),.slice none 0 0,.int .i64 0] 80)=X:=⟨_,rfl⟩
 rw[hw4]at hI hN hS1;obtain⟨px,LA⟩:∃ x,w3.heap.size=x:=⟨_,rfl⟩
 rw[LA]at hI;clear hbx hb0 hcl hS0;go_simp
 go_wp2_with fail
 try rw[hw4]
 try rw[LA]
 refine hK.out _ _ (fun _=>hS1.out) (fun _=>?_);clear hK hw4 LA;try simp only[Act.put,Sa,Sb,Sc]
 refine tY 9 (fun _=>hS1.out) ?_;refine AE (by kernel_rfl) ?_ _;clear hS1;go_upto_region 3 with fail
 have hI5:=hI.out.keep (Bd (Below.refl _ w4));have hS5:(fun W'=>W'.cell? ⟨px,4,none⟩=some (.slice none 0 0)∧W'.cell? ⟨W.heap.size,4,none⟩=some (.slice (some ⟨gi,0,none⟩) mi ci)) w4.drew:=⟨(Bc hI5.bx 4).trans rfl,(Bc (Be hN.out) 4).trans rfl⟩
 replace hI:=Az hI5;replace hN:=Az (Be hN.out);clear hI5;refine Ay [10] (S:=fun W'=>W'.cell? ⟨px,4,none⟩=some (.slice none 0 0)∧W'.cell? ⟨W.heap.size,4,none⟩=some (.slice (some ⟨gi,0,none⟩) mi ci)) (by kernel_rfl) hS5 (fun hS0=>?_);clear hS5;generalize w4.drew=w4 at *;try simp only[Act.put,Sa,Sb,Sc]
 refine tY 0 (fun _=>hS0) ?_;refine tY 1 (fun _=>hS0) ?_;refine tY 2 (fun _=>hS0) ?_;refine tY 3 (fun _=>hS0) ?_;refine tL 4 (hS0) ?_;refine tY 5 (fun _=>hS0) ?_;refine tL 6 (hS0) ?_;refine Ab (rs:=[7]) (by kernel_rfl) (by simp) ?_;refine Aa.cons (An rfl) (fun K hK=>?_) Aa.nil;refine Tg rfl (.tmp 30) (.tmp 32) rfl W.heap.size gi ci _ [] is rfl hI.out.words (by rw[hmi.out];rfl) (fun j u hj=>Ck hI.out.b (hic.out j u hj)) (by simp;rw[hmi.out];omega) hI.out.hz (fun v5 w5 hr5 hg5=>?_);have hx5:=Bg hI.out.bx hg5 (Oa hI.out.words hI.out.bx (by decide));have hN5:=Bg hN.out hg5 (Oa hI.out.words hN.out (by decide));have hI6:=hI.out.Rq (v:=v5) hr5 hg5;obtain⟨A5,n5,c5,rfl⟩:=AK hr5;have f5:=Bf hx5 4;have e5:w5.cell? ⟨px,4,none⟩=some (.slice none 0 0):=(Bc hx5 4).trans rfl;have z5:=Bl hx5;replace hS0:(fun W'=>W'.cell? ⟨px,4,none⟩=some (.slice none 0 0)∧W'.cell? ⟨W.heap.size,4,none⟩=some (.slice (some ⟨gi,0,none⟩) mi ci)) w5:=⟨e5,(Bc hN5 4).trans rfl⟩
 have hne:W.heap.size≠px:=CU hN5 hx5 (by decide);have hN6:=Az (Ba (p:=⟨px,4,none⟩) hN5 hne (.slice A5 n5 c5));replace hI6:=Az hI6;refine hK.out _ _ (fun _=>hS0) (fun _=>?_);clear hK hr5 hg5 hx5 hN5 hI hN hic;try simp only[Act.put,Sa,Sb,Sc]
 refine tY 8 (fun _=>hS0) ?_;refine tY 9 (fun _=>hS0) ?_;clear hS0;obtain⟨w6,hw6⟩:∃ X,w5.setCell ⟨px,4,none⟩ (.slice A5 n5 c5)=X:=⟨_,rfl⟩
 rw[hw6]at hI6 hN6;refine Ab (rs:=[10]) (by kernel_rfl) (by simp) ?_;refine Aa.cons (An rfl) (fun K hK=>?_) Aa.nil;go_simp
 go_wp2_with fail
 refine hK.out _ _ (fun h=>by cases h) (fun _=>?_);try rw[hw6]
 clear hK hw6 f5 e5 z5 hne;try simp only[Act.put,Sa,Sb,Sc]
 refine AE (by kernel_rfl) ?_ _;have n6:w6.cell? ⟨W.heap.size,6,none⟩=some (.slice Ar mr cr):=(Bc hN6.out 6).trans rfl;clear hN6;go_wp2_with fail
 go_loopw [39] (fun v39 wr=>∃ (k:Nat) (vo:Value),v39=.int .i64 (k:Int)∧k≤mr∧Af (R9 W wr px (.slice Al ml cl) (.slice Ac nc cc) (.slice A5 n5 c5) vo (some ⟨gp,0,none⟩) pg cells ([]++is) ((rs.take k).map fun v=>⟨[0,0,0,0,0,0,0,v],0⟩))) (fun v39 _=>mr-(intOf v39).toNat)
 case atStart=>exact⟨0,_,rfl,Nat.zero_le _,hI6⟩
 case round =>
  obtain⟨k,vo,rfl,hk,hI⟩:=hrel;clear hI6 n6;by_cases hlt:k<mr
  ·have hkl:k<rs.length:=by rw[hmr.out];exact hlt
   have hrr:=hr.out.keep hI.out.b;rw[hmr.out]at hrr;obtain⟨gr,cr',hvr,hrc⟩:=hrr.cells (by omega);cases hvr;have rk:=hrc k (.int .u32 ((rs.getD k 0:Nat):Int)) (by simp[hkl,List.getD_eq_getElem?_getD]);have hsn:rs.take (k+1)=rs.take k++[rs.getD k 0]:=by
    rw[List.take_succ_eq_append_getElem hkl,List.getD_eq_getElem?_getD,List.getElem?_eq_getElem hkl];rfl
   have hv:rs.getD k 0<4294967296:=Tb.out _ (by rw[List.getD_eq_getElem?_getD,List.getElem?_eq_getElem hkl];exact List.getElem_mem _);generalize rs.getD k 0=v at rk hsn hv;have k0:(0:Int)≤(k:Int):=by omega
   have k1:(k:Int)<(mr:Int):=by omega
   have kw:IntKind.i64.wrap ((k:Int)+1)=(k:Int)+1:=by rw[IntKind.wrap_i64];omega
   have vw:IntKind.i64.wrap (v:Int)=(v:Int):=by rw[IntKind.wrap_i64];omega
   have hbn:=Bw wr (.cells #[.int .i64 0,.int .i64 0,.int .i64 0,.int .i64 0,.int .i64 0,.int .i64 0,.int .i64 0,.int .i64 (v:Int),.int .i64 0] 133);have hI2:=Az (hI.out.keep hbn);have hnb:=Az (Bv wr (.cells #[.int .i64 0,.int .i64 0,.int .i64 0,.int .i64 0,.int .i64 0,.int .i64 0,.int .i64 0,.int .i64 (v:Int),.int .i64 0] 133));replace hsn:=Az hsn;clear hrr hrc hbn hI hv;go_upto_region 9 with fail
   obtain⟨gx,hgx⟩:∃ x,wr.heap.size=x:=⟨_,rfl⟩
   rw[hgx]at hnb;try rw[hgx]
   obtain⟨w7,hw7⟩:∃ X,wr.alloc (.cells #[.int .i64 0,.int .i64 0,.int .i64 0,.int .i64 0,.int .i64 0,.int .i64 0,.int .i64 0,.int .i64 (v:Int),.int .i64 0] 133)=X:=⟨_,rfl⟩
   rw[hw7]at hI2 hnb;try rw[hw7]
   clear hw7 hgx rk;have hI3:=hI2.out.keep (Bd (Below.refl _ w7));have hS5:(fun W'=>W'.cell? ⟨px,6,none⟩=some vo∧W'.cell? ⟨gx,0,none⟩=some (.int .i64 0)∧W'.cell? ⟨gx,1,none⟩=some (.int .i64 0)∧W'.cell? ⟨gx,2,none⟩=some (.int .i64 0)∧W'.cell? ⟨gx,3,none⟩=some (.int .i64 0)∧W'.cell? ⟨gx,4,none⟩=some (.int .i64 0)∧W'.cell? ⟨gx,5,none⟩=some (.int .i64 0)∧W'.cell? ⟨gx,6,none⟩=some (.int .i64 0)∧W'.cell? ⟨gx,7,none⟩=some (.int .i64 (v:Int))∧W'.cell? ⟨gx,8,none⟩=some (.int .i64 0)) w7.drew:=⟨(Bc hI3.bx 6).trans rfl,(Bc (Be hnb.out) 0).trans rfl,(Bc (Be hnb.out) 1).trans rfl,(Bc (Be hnb.out) 2).trans rfl,(Bc (Be hnb.out) 3).trans rfl,(Bc (Be hnb.out) 4).trans rfl,(Bc (Be hnb.out) 5).trans rfl,(Bc (Be hnb.out) 6).trans rfl,(Bc (Be hnb.out) 7).trans rfl,(Bc (Be hnb.out) 8).trans rfl⟩
   refine Ay [7,10] (S:=fun W'=>W'.cell? ⟨px,6,none⟩=some vo∧W'.cell? ⟨gx,0,none⟩=some (.int .i64 0)∧W'.cell? ⟨gx,1,none⟩=some (.int .i64 0)∧W'.cell? ⟨gx,2,none⟩=some (.int .i64 0)∧W'.cell? ⟨gx,3,none⟩=some (.int .i64 0)∧W'.cell? ⟨gx,4,none⟩=some (.int .i64 0)∧W'.cell? ⟨gx,5,none⟩=some (.int .i64 0)∧W'.cell? ⟨gx,6,none⟩=some (.int .i64 0)∧W'.cell? ⟨gx,7,none⟩=some (.int .i64 (v:Int))∧W'.cell? ⟨gx,8,none⟩=some (.int .i64 0)) (by kernel_rfl) hS5 (fun hS0=>?_);replace hI2:=Az hI3;clear hS5 hI3 hnb;generalize w7.drew=w7 at *;try simp only[Act.put,Sa,Sb,Sc]
   refine tY 0 (fun _=>hS0) ?_;refine tY 1 (fun _=>hS0) ?_;refine tY 2 (fun _=>hS0) ?_;refine tY 3 (fun _=>hS0) ?_;refine tL 4 (hS0) ?_;refine tL 5 (hS0) ?_;refine Ab (rs:=[6]) (by kernel_rfl) (by simp) ?_;refine Aa.cons (An rfl) (fun K hK=>?_) Aa.nil;refine Th rfl (.tmp 52) rfl v rfl (fun g8 w8 hb8 hy8=>?_);replace hI2:=Az (hI2.out.keep hb8);replace hS0:(fun W'=>W'.cell? ⟨px,6,none⟩=some vo∧W'.cell? ⟨gx,0,none⟩=some (.int .i64 0)∧W'.cell? ⟨gx,1,none⟩=some (.int .i64 0)∧W'.cell? ⟨gx,2,none⟩=some (.int .i64 0)∧W'.cell? ⟨gx,3,none⟩=some (.int .i64 0)∧W'.cell? ⟨gx,4,none⟩=some (.int .i64 0)∧W'.cell? ⟨gx,5,none⟩=some (.int .i64 0)∧W'.cell? ⟨gx,6,none⟩=some (.int .i64 0)∧W'.cell? ⟨gx,7,none⟩=some (.int .i64 (v:Int))∧W'.cell? ⟨gx,8,none⟩=some (.int .i64 0)) w8:=⟨Ck hb8 hS0.1,Ck hb8 hS0.2.1,Ck hb8 hS0.2.2.1,Ck hb8 hS0.2.2.2.1,Ck hb8 hS0.2.2.2.2.1,Ck hb8 hS0.2.2.2.2.2.1,Ck hb8 hS0.2.2.2.2.2.2.1,Ck hb8 hS0.2.2.2.2.2.2.2.1,Ck hb8 hS0.2.2.2.2.2.2.2.2.1,Ck hb8 hS0.2.2.2.2.2.2.2.2.2⟩
   refine hK.out _ _ (fun _=>hS0) (fun _=>?_);clear hK hb8;try simp only[Act.put,Sa,Sb,Sc]
   refine Ab (rs:=[7]) (by kernel_rfl) (by simp) ?_;refine Aa.cons (An rfl) (fun K hK=>?_) Aa.nil;refine Ti rfl (.tmp 51) (.tmp 53) rfl W.heap.size g8 v _ _ rfl hI2.out.AQ rfl hy8 (by rw[List.length_map,List.length_take];omega) hI2.out.hz (fun v9 w9 hr9 hg9=>?_);have hx9:=Bg hI2.out.bx hg9 (Oa hI2.out.AQ hI2.out.bx (by decide));have hI9:=hI2.out.MD (v:=v9) hr9 hg9;rw[show(rs.take k).map (fun v=>(⟨[0,0,0,0,0,0,0,v],0⟩:CoreM))++[⟨[0,0,0,0,0,0,0,v],0⟩]=(rs.take (k+1)).map (fun v=>(⟨[0,0,0,0,0,0,0,v],0⟩:CoreM)) by rw[hsn.out,List.map_append];rfl]at hI9;obtain⟨A9,n9,c9,rfl⟩:=AK hr9;have f9:=Bf hx9 6;have e9:w9.cell? ⟨px,6,none⟩=some vo:=(Bc hx9 6).trans rfl;have z9:=Bl hx9;replace hI9:=Az hI9;refine hK.out _ _ (fun h=>by cases h) (fun _=>?_);clear hK hS0 hr9 hg9 hx9 hI2 hy8 hsn;try simp only[Act.put,Sa,Sb,Sc]
   refine tY 8 (fun h=>by cases h) ?_;refine tY 9 (fun h=>by cases h) ?_;obtain⟨w10,hw10⟩:∃ X,w9.setCell ⟨px,6,none⟩ (.slice A9 n9 c9)=X:=⟨_,rfl⟩
   rw[hw10]at hI9;refine Ab (rs:=[10]) (by kernel_rfl) (by simp) ?_;refine Aa.cons (An rfl) (fun K hK=>?_) Aa.nil;go_simp
   go_wp2_with fail
   refine hK.out _ _ (fun h=>by cases h) (fun _=>?_);try rw[hw10]
   clear hK hw10 f9 e9 z9;try simp only[Act.put,Sa,Sb,Sc]
   refine AE (by kernel_rfl) ?_ _;go_wp2;go_roundw
   case rel=>exact⟨k+1,_,by go_num,hlt,hI9⟩
   case measure=>simp[intOf];omega
  ·obtain rfl:k=mr:=by omega
   have n1:¬(k:Int)<(k:Int):=by omega
   have hE:Dm W wr px (.slice Al ml cl) (.slice Ac nc cc) (.slice A5 n5 c5) vo (some ⟨gp,0,none⟩) fin:=by
    have hI':=hI.out;rw[←hmr.out,List.take_length,List.nil_append]at hI';have hl':=hl.out;rw[←hfin.out];rw[←hcells.out]at hI';refine⟨hI'.b,hI'.LA,⟨0,hI'.bx⟩,?_,hI'.cells,hI'.words,hI'.AQ,fun c hc=>?_,fun v hv=>Q8.out v hv⟩
    ·rw[←hml.out];exact hl'
    ·obtain⟨v,hv,rfl⟩:=List.mem_map.1 hc;have:=Tb.out v hv;refine⟨rfl,fun j=>?_⟩;rcases j with _ |_ |_ |_ |_ |_ |_ |_ |j
     all_goals first |exact this |exact(by decide:(0:Nat)<4294967296)
   replace hE:=Az hE;clear hI;go_wp2;go_ret;first |exact⟨_,rfl,_,_,_,_,hE.out⟩ |exact⟨_,_,_,_,_,rfl,hE.out⟩ |exact⟨_,_,_,rfl,_,_,hE.out⟩ |exact⟨_,_,_,_,hE.out⟩ |exact⟨_,_,_,_,_,hE.out⟩ |exact⟨_,_,_,hE.out⟩
end
end Go.Proofs.YtnmahobjmpdkdaaGreatDoor

/- Parts: SpecClh, HasClh, HasMcsTry. -/
import Derived.Test.YtjjpiefgdggghaaGreatDoorZ02
import Derived.Test.YtjjpiefgdggghaaGreatDoorZ28
import Derived.Test.YtjjpiefgdggghaaGreatDoorZ10
set_option linter.unusedVariables false
set_option linter.unusedSimpArgs false
set_option maxRecDepth 100000
set_option maxHeartbeats 40000000
namespace Go.Proofs.YtjjpiefgdggghaaGreatDoor
section
open Go.RowKit Go.Proofs.YtjjpiefgdggghaaGreatDoorW.PrintWords
def clhT:List UInt8:=[108,111,99,107,58,10,99,111,110,115,116,32,114,49,32,49,10,115,116,111,114,101,32,49,32,114,55,32,114,49,10,115,119,97,112,32,114,54,32,48,32,114,48,32,114,55,10,109,97,114,107,32,49,10,97,119,97,105,116,32,114,49,32,49,32,114,54,32,101,113,32,114,48,10,109,97,114,107,32,50,10,100,111,110,101,32,49,10,117,110,108,111,99,107,58,10,115,116,111,114,101,32,49,32,114,55,32,114,48,10,109,97,114,107,32,52,10,109,111,118,101,32,114,55,32,114,54,10,100,111,110,101,32,50,10]
theorem clh_len:clhT.length≤90000:=by decide +kernel
theorem clh_few:(At clhT).1.l.length≤1000:=by decide +kernel
theorem clhText_calls(W:World):Calls Tryz.prog 81 #[] W fun e W'=>e=.returned (.string ⟨clhT.toArray⟩)∧W'=W:=by
 go_enter Tryz.func81,Tryz.ntmps81;go_wp2;go_ret;exact⟨rfl,rfl⟩
def U32Row(W:World)(base:Nat)(v:Value)(xs:List Int):Prop:=W.ownsRow base 45 1 v xs.length (xs.map (Value.int .u32))
theorem U32Row.some{W:World}{base:Nat}{v:Value}{xs:List Int}(h:U32Row W base v xs)(hn:0<xs.length):∃ D c,v=.slice D xs.length c:=by
 rcases h.2 with ⟨rfl,h0⟩ |⟨g,cap,cur,rfl,_⟩
 ·omega
 ·exact⟨_,_,rfl⟩
section
variable {ops:Array Oper} {rest:List Oper} {o:Oper} {a:Act} {Q:Exit→Act→World→Prop} {W:World}
theorem app_u32(hgd:o.guard=none)(s x:Operand)(ho:o.op=.call {callee:=.builtin .append,args:=#[s,x],argTypes:=#[27,27]})
  (base g:Nat)(y:Int)(v:Value)(xs:List Int)(hs:a.eval s=v)(hr:U32Row W base v xs)(hx:a.eval x=.slice (some ⟨g,0,none⟩) 1 1)
  (hy:W.heap[g]?=some (.cells #[.int .u32 y] 45 (0,0)))(hl:xs.length≤1000000)(hb:base≤W.heap.size)
  (h:∀ v' W1,U32Row W1 base v' (xs++[y])→W.grownBy W1 v.ownBlock→(v'.ownBlock=v.ownBlock∨v'.ownBlock=some W.heap.size)→wpList Tryz.prog ops Q rest (a.put o.dst v') W1) :
  wpList Tryz.prog ops Q (o::rest) a W:=by
 obtain⟨i9,hi,hz0,hz1,hz2⟩:=info_parts Jl;refine wpList_append_own_at _ hgd s x 27 ho base 45 i9 (.int .u32 0) 1 4 Tryz.underlying27 hi hz0 hz1 hz2 rfl (by decide) v xs.length (xs.map (Value.int .u32)) hs hr ⟨g,0,none⟩ 1 1 [.int .u32 y] hx rfl ?_ ?_ ?_ ?_ hb ?_
 ·intro j u hj;rw[add_plain];exact(Bc hy j).trans (by simpa using hj)
 ·simp[Value.oneCell']
 ·simp[maxLen];omega
 ·omega
 ·intro v' w' h1 h2 _ h4;refine h v' w' ?_ h2 h4;unfold U32Row;rw[List.map_append,List.length_append];exact h1
end
theorem SpB.grown{w W W1:World}{N p:Nat}{B C D:Option Addr}{n1 n2 n3 k1 k2 k3:Nat}{each:Int}{v:Value}{xs:List Int}(h:SpB w W N p B C D n1 n2 n3 k1 k2 k3 each)(hr:U32Row W N v xs)(hg:W.grownBy W1 v.ownBlock):SpB w W1 N p B C D n1 n2 n3 k1 k2 k3 each :=
 ⟨h.b.grown hg (Nat.le_of_lt (Bl h.c)) (fun k hk=>Ob hr k hk),Bg h.c hg (Oa hr h.c (by decide)),Bg h.q hg (Oa hr h.q (by decide)),h.ne⟩
theorem SpB.r7{w W:World}{N p:Nat}{B C D:Option Addr}{n1 n2 n3 k1 k2 k3:Nat}{each:Int}(h:SpB w W N p B C D n1 n2 n3 k1 k2 k3 each)(D':Option Addr)(n3' k3':Nat):SpB w (W.setCell ⟨p,6,none⟩ (.slice D' n3' k3')) N p B C D' n1 n2 n3' k1 k2 k3' each:=by
 have hne:=h.ne;exact⟨h.b.setCell (show N≤p by omega) _,(Below.heap_setCell W ⟨p,6,none⟩ _ _ (show N≠p by omega)).trans h.c,Bs h.q 6 _,h.ne⟩
theorem clhSpec_no(n:Int)(h:n<1∨64<n)(w:World):Calls Tryz.prog 52 #[.int .i64 n] w (DS w):=by
 have hN:=Bv w (.cells #[.slice none 0 0,.int .i64 0,.int .i64 0,.slice none 0 0,.slice none 0 0,.int .i64 0,.slice none 0 0] 37);have hb0:=Bw w (.cells #[.slice none 0 0,.int .i64 0,.int .i64 0,.slice none 0 0,.slice none 0 0,.int .i64 0,.slice none 0 0] 37);have hfin:=Dl hb0 hN;obtain⟨w0,hw0⟩:∃ y,w.alloc (.cells #[.slice none 0 0,.int .i64 0,.int .i64 0,.slice none 0 0,.slice none 0 0,.int .i64 0,.slice none 0 0] 37)=y:=⟨_,rfl⟩
 rw[hw0]at hfin hN;have d0:w0.cell? ⟨w.heap.size,0,none⟩=some (.slice none 0 0):=(Bc hN 0).trans rfl;have d1:w0.cell? ⟨w.heap.size,1,none⟩=some (.int .i64 0):=(Bc hN 1).trans rfl;have d2:w0.cell? ⟨w.heap.size,2,none⟩=some (.int .i64 0):=(Bc hN 2).trans rfl;have d3:w0.cell? ⟨w.heap.size,3,none⟩=some (.slice none 0 0):=(Bc hN 3).trans rfl;have d4:w0.cell? ⟨w.heap.size,4,none⟩=some (.slice none 0 0):=(Bc hN 4).trans rfl;have d5:w0.cell? ⟨w.heap.size,5,none⟩=some (.int .i64 0):=(Bc hN 5).trans rfl;have d6:w0.cell? ⟨w.heap.size,6,none⟩=some (.slice none 0 0):=(Bc hN 6).trans rfl;have e0:=Bf hN 0;have e1:=Bf hN 1;have e2:=Bf hN 2;have e3:=Bf hN 3;have e4:=Bf hN 4;have e5:=Bf hN 5;have e6:=Bf hN 6;have z0:w.heap.size<w0.heap.size:=Bl hN;replace hfin:=Az hfin;clear hN hb0;go_enter Tryz.func52,Tryz.ntmps52;go_upto_region 1 with fail
 try rw[hw0]
 clear hw0;go_cut [11] (fun v wx=>v=.bool true∧wx=w0)
 case first =>
  rcases h with h |h
  ·have hd1:decide (n<1)=true:=decide_eq_true h;go_wp2;go_meet
   exact⟨rfl,rfl⟩
  ·have hd1:decide (n<1)=false:=decide_eq_false (by omega);have hd2:decide (64<n)=true:=decide_eq_true h;go_wp2;go_meet
   exact⟨rfl,rfl⟩
 case rest =>
  obtain⟨rfl,rfl⟩:=hcut;go_wp2;obtain⟨g1,g2⟩:=hfin.out _ rfl;refine bodyPost_ret (Ah rfl _ _ w.heap.size 37 #[.slice none 0 0,.int .i64 0,.int .i64 0,.slice none 0 0,.slice none 0 0,.int .i64 0,.slice none 0 0] (0,0) _ rfl g1 Tryz.underlying37 rfl (by kernel_rfl)) rfl ⟨rfl,g2⟩
theorem HRow.grown{W W1:World}{v:Value}{t:TypeId}{cs:List Value}{row:Option Nat}(h:HRow W v t cs)(hg:W.grownBy W1 row)(hne:∀ (g n c:Nat) (arr:Array Value),v=.slice (some ⟨g,0,none⟩) n c→W.heap[g]?=some (.cells arr t (0,0))→some g≠row):HRow W1 v t cs:=by
 rcases h with h |⟨g',c,arr',h1,h2,h3,h4,h5⟩
 ·exact .inl h
 ·exact .inr ⟨g',c,arr',h1,h2,h3,(hg.block g' (Bl h4) (hne _ _ _ _ h1 h4)).trans h4,h5⟩
theorem hrow_of{W:World}{base:Nat}{v:Value}{xs:List Int}(h:U32Row W base v xs):HRow W v 45 (xs.map (Value.int .u32)):=by
 obtain⟨h1,h2⟩:=h;rcases h2 with ⟨rfl,h0⟩ |⟨g,cap,cur,rfl,hg,hh,hc,hm,hs,ht⟩
 ·have:xs=[]:=List.eq_nil_of_length_eq_zero h0;subst this;exact .inl ⟨rfl,_,_,rfl⟩
 ·by_cases hn:0<xs.length
  ·refine .inr ⟨g,cap,cur,by simp,by simpa using hc,by simpa using hn,hh,fun j u hj=>?_⟩;have hlt:j<xs.length:=by have:=(List.getElem?_eq_some_iff.1 hj).1;simpa using this
   rw[←ht,List.getElem?_take_of_lt (by omega),Array.getElem?_toList]at hj;exact hj
  ·have h0:xs.length=0:=by omega
   have:xs=[]:=List.eq_nil_of_length_eq_zero h0;subst this;exact .inl ⟨rfl,_,_,rfl⟩
theorem SpB.grownM{w W W1:World}{N M p:Nat}{B C D:Option Addr}{n1 n2 n3 k1 k2 k3:Nat}{each:Int}{v:Value}{xs:List Int}(h:SpB w W N p B C D n1 n2 n3 k1 k2 k3 each)(hM:N≤M)(hr:U32Row W M v xs)(hg:W.grownBy W1 v.ownBlock):SpB w W1 N p B C D n1 n2 n3 k1 k2 k3 each :=
 ⟨h.b.grown hg (Nat.le_of_lt (Bl h.c)) (fun k hk=>Nat.le_trans hM (Ob hr k hk)),Bg h.c hg (Oa hr h.c (by decide)),Bg h.q hg (Oa hr h.q (by decide)),h.ne⟩
theorem clhSpec_has(k:Nat)(h1:1≤k)(h2:k≤64)(w:World)(he:Env w):Calls Tryz.prog 52 #[.int .i64 (k:Int)] w (SpecHas w clhT [1,(k:Int)+1] (List.replicate (k+2) (0:Int)) ((List.range k).map fun i:Nat=>(i:Int)+1) 0):=by
 have hd1:decide ((k:Int)<1)=false:=decide_eq_false (by omega);have hd2:decide ((64:Int)<(k:Int))=false:=decide_eq_false (by omega);have hw0:IntKind.i64.wrap ((k:Int)+1)=(k:Int)+1:=by rw[IntKind.wrap_i64];omega
 have hw1:IntKind.i64.wrap ((k:Int)+2)=(k:Int)+2:=by rw[IntKind.wrap_i64];omega
 obtain⟨cs,hcs,hz,hmk⟩:=G2 (k+2) (by omega);have e2:((k+2:Nat):Int)=(k:Int)+2:=by omega
 rw[e2]at hmk;clear e2;replace hz:=Az hz;have CT:=Az (fun W=>clhText_calls W);have CA:=Az (fun(W:World) (heW:Env W)=>C9 clhT W heW clh_len);have hN:=Bv w (.cells #[.slice none 0 0,.int .i64 0,.int .i64 0,.slice none 0 0,.slice none 0 0,.int .i64 0,.slice none 0 0] 37);have hb0:=Bw w (.cells #[.slice none 0 0,.int .i64 0,.int .i64 0,.slice none 0 0,.slice none 0 0,.int .i64 0,.slice none 0 0] 37);obtain⟨w0,hw0'⟩:∃ y,w.alloc (.cells #[.slice none 0 0,.int .i64 0,.int .i64 0,.slice none 0 0,.slice none 0 0,.int .i64 0,.slice none 0 0] 37)=y:=⟨_,rfl⟩
 rw[hw0']at hN hb0;go_enter Tryz.func52,Tryz.ntmps52;go_upto_region 3 with fail
 try rw[hw0']
 clear hw0';replace hN:=Az hN;replace hb0:=Az hb0;go_cut [4] (fun v wx=>∃ (p:Nat) (B C:Option Addr) (n1 n2 k1 k2:Nat),v=.pointer (some ⟨p,0,none⟩)∧Ai (SpB w wx w.heap.size p B C none n1 n2 0 k1 k2 0 0)∧Ai ((HRow wx (.slice B n1 k1) 3 (([1,(k:Int)+1]:List Int).map (Value.int .i64))∧HRow wx (.slice C n2 k2) 45 ((List.replicate (k+2) (0:Int)).map (Value.int .u32)))∧∀ (g n c:Nat),Value.slice C n2 k2=.slice (some ⟨g,0,none⟩) n c→g<wx.heap.size))
 case first =>
  go_wp2;go_meet
  have hlt:=Bl hN.out;refine⟨_,some ⟨w0.heap.size,0,none⟩,some ⟨w0.heap.size+1,0,none⟩,2,k+2,2,k+2,rfl,⟨⟨?_,?_,?_,?_⟩⟩,⟨⟨?_,?_⟩,?_⟩⟩
  ·exact((hb0.out.trans ((Bw w0 _).mono hb0.out.size)).alloc (by simp;omega) _).alloc (by simp;omega) _
  ·exact As (As (As hN.out _) _) _
  ·exact BU (by simp) _
  ·omega
  ·exact HRow.new (([1,(k:Int)+1]:List Int).map (Value.int .i64)) (As (As (Bv w0 _) _) _) rfl (by simp) (fun j u hj=>by simpa using hj)
  ·exact HRow.zeros (As (BU (by simp) _) _) (by omega) hz.out
  ·intro g n c e;injection e with e1
   injection e1 with e1
   injection e1 with e1
   subst e1;simp
 case rest =>
  obtain⟨p,B,C,n1,n2,k1,k2,rfl,hB,hH⟩:=hcut;clear hN hb0 hmk hz;obtain⟨M,hM⟩:∃ M,wc.heap.size=M:=⟨_,rfl⟩
  have hMw:w.heap.size≤M:=hM▸Nat.le_of_lt (Bl hB.out.c);have hC:=Az (show ∀ (g n c:Nat),Value.slice C n2 k2=.slice (some ⟨g,0,none⟩) n c→g<M from fun g n c e=>hM▸hH.out.2 g n c e);replace hH:=Az hH.out.1;replace hMw:=Az (And.intro hMw (Nat.le_of_eq hM.symm));clear hM;go_wp2_with fail
  go_loopw [21] (fun v21 wr=>∃ (i:Nat) (D:Option Addr) (k3:Nat) (xs:List Int),v21=.int .i64 i∧i≤k∧Ai (SpB w wr w.heap.size p B C D n1 n2 i k1 k2 k3 0)∧Ai (xs.length=i∧U32Row wr M (.slice D i k3) xs)∧Ai (xs=(List.range i).map fun i:Nat=>(i:Int)+1)∧Ai ((HRow wr (.slice B n1 k1) 3 (([1,(k:Int)+1]:List Int).map (Value.int .i64))∧HRow wr (.slice C n2 k2) 45 ((List.replicate (k+2) (0:Int)).map (Value.int .u32)))∧M≤wr.heap.size)) (fun v21 _=>k-(intOf v21).toNat)
  case atStart=>exact⟨0,none,0,[],rfl,Nat.zero_le _,hB,⟨rfl,rfl,.inl ⟨rfl,rfl⟩⟩,⟨rfl⟩,⟨hH.out,hMw.out.2⟩⟩
  case round =>
   obtain⟨i,D,k3,xs,rfl,hik,hB,hX,hxs,hH⟩:=hrel;by_cases hlt:i<k
   ·have c6:wr.cell? ⟨p,6,none⟩=some (.slice D i k3):=(Bc hB.out.q 6).trans rfl;have hi1:(i:Int)<(k:Int):=by omega
    have Rc:IntKind.i64.wrap ((i:Int)+1)=(i:Int)+1:=by rw[IntKind.wrap_i64];omega
    have hiu:IntKind.u32.wrap ((i:Int)+1)=(i:Int)+1:=by rw[IntKind.wrap_u32];omega
    have hk2:=Bw wr (.cells #[.int .u32 ((i:Int)+1)] 45);have hr0:U32Row (wr.alloc (.cells #[.int .u32 ((i:Int)+1)] 45)) M (.slice D i k3) xs:=Om hX.out.2 (fun k hk=>hk2.block k (Ol hX.out.2 k hk));have hB2:=hB.out.keep hk2;have hsz:M≤(wr.alloc (.cells #[.int .u32 ((i:Int)+1)] 45)).heap.size:=Nat.le_trans hH.out.2 hk2.size;have hH2:=Az (And.intro (hH.out.1.1.keep hk2) (hH.out.1.2.keep hk2));replace hr0:=Az hr0;replace hB2:=Az hB2;replace hsz:=Az hsz;clear hk2;go_wp2_with (at_builtin;refine app_u32 rfl (.tmp 25) (.tmp 29) rfl M wr.heap.size ((i:Int)+1) (.slice D i k3) xs rfl hr0.out rfl (Bv _ _) ?hl ?hb ?_)
    case hl=>have:=hX.out.1;omega
    case hb=>exact hsz.out
    intro v' W2 hr hg _;have hB3:=hB2.out.grownM hMw.out.1 hr0.out hg;have hH3:=And.intro (hH2.out.1.grown hg (fun g n c arr e h4=>Oa hr0.out h4 (by decide))) (hH2.out.2.grown hg (fun g n c arr e h4 e2=>by have h1:=hC.out g n c e;have h2:=Ob hr0.out g e2.symm;omega));have hM2:M≤W2.heap.size:=Nat.le_trans hsz.out hg.size;obtain⟨D',c',rfl⟩:=hr.some (by simp);have hlen:(xs++[(i:Int)+1]).length=i+1:=by rw[List.length_append,hX.out.1];rfl
    rw[hlen]at hr ⊢;have c62:W2.cell? ⟨p,6,none⟩=some (.slice D i k3):=(Bc hB3.q 6).trans rfl;have f62:=Bf hB3.q 6;have z62:p<W2.heap.size:=Bl hB3.q;have hB4:=Az (hB3.r7 D' (i+1) c');have hH4:=Az (And.intro (hH3.1.far (i:=6) (x:=.slice D' (i+1) c') hB3.q (by decide)) (hH3.2.far (i:=6) (x:=.slice D' (i+1) c') hB3.q (by decide)));have hxs2:=Az (show xs++[(i:Int)+1]=(List.range (i+1)).map fun i:Nat=>(i:Int)+1 by rw[hxs.out,List.range_succ,List.map_append];rfl);replace hM2:=Az hM2;have hr4:=Az (Rs hr hB3.q (by decide) 6 (.slice D' (i+1) c'));replace hlen:=Az hlen;clear hB3 hr hg hB2 hr0 c6 hH3 hH2 hH hxs;go_wp2;go_roundw
    case rel=>exact⟨i+1,D',c',_,by go_num,hlt,hB4,⟨hlen.out,hr4.out⟩,hxs2,⟨hH4.out,by simpa using hM2.out⟩⟩
    case measure=>simp[intOf];omega
   ·obtain rfl:i=k:=by omega
    have hge:¬(i:Int)<(i:Int):=by omega
    have hR:=Az (hrow_of hX.out.2);rw[hxs.out]at hR;clear hX hlt hik hxs;go_wp2_with fail
    refine(CT.out _).mono ?_;rintro e w1 ⟨rfl,rfl⟩;go_wp2_with fail
    refine(CA.out _ (he.below hB.out.b)).mono ?_;rintro e w2 ⟨va,rfl,hr,hb⟩;have hB2:=hB.out.keep hb;have hr2:=hr.mono hB.out.b.size;obtain⟨A,mm,c,rfl⟩:=AB hr;have x1:=Az (hB2.finH (va:=.slice A mm c) (At clhT).1.lock (At clhT).1.unlock (hH.out.1.1.keep hb) (by decide));have x2:=Az (hB2.finH (va:=.slice A mm c) (At clhT).1.lock (At clhT).1.unlock (hH.out.1.2.keep hb) (by decide));have x3:=Az (hB2.finH (va:=.slice A mm c) (At clhT).1.lock (At clhT).1.unlock (hR.out.keep hb) (by decide));have hfin:=Az (hB2.fin (At clhT).1.lock (At clhT).1.unlock hr2);have c0:w2.cell? ⟨p,0,none⟩=some (.slice none 0 0):=(Bc hB2.q 0).trans rfl;have c1:w2.cell? ⟨p,1,none⟩=some (.int .i64 0):=(Bc hB2.q 1).trans rfl;have c2:w2.cell? ⟨p,2,none⟩=some (.int .i64 0):=(Bc hB2.q 2).trans rfl;have c3:w2.cell? ⟨p,3,none⟩=some (.slice B n1 k1):=(Bc hB2.q 3).trans rfl;have c4:w2.cell? ⟨p,4,none⟩=some (.slice C n2 k2):=(Bc hB2.q 4).trans rfl;have c5:w2.cell? ⟨p,5,none⟩=some (.int .i64 0):=(Bc hB2.q 5).trans rfl;have c6:w2.cell? ⟨p,6,none⟩=some (.slice D i k3):=(Bc hB2.q 6).trans rfl;have f0:=Bf hB2.q 0;have f1:=Bf hB2.q 1;have f2:=Bf hB2.q 2;have d0:w2.cell? ⟨w.heap.size,0,none⟩=some (.slice none 0 0):=(Bc hB2.c 0).trans rfl;have d1:w2.cell? ⟨w.heap.size,1,none⟩=some (.int .i64 0):=(Bc hB2.c 1).trans rfl;have d2:w2.cell? ⟨w.heap.size,2,none⟩=some (.int .i64 0):=(Bc hB2.c 2).trans rfl;have d3:w2.cell? ⟨w.heap.size,3,none⟩=some (.slice none 0 0):=(Bc hB2.c 3).trans rfl;have d4:w2.cell? ⟨w.heap.size,4,none⟩=some (.slice none 0 0):=(Bc hB2.c 4).trans rfl;have d5:w2.cell? ⟨w.heap.size,5,none⟩=some (.int .i64 0):=(Bc hB2.c 5).trans rfl;have d6:w2.cell? ⟨w.heap.size,6,none⟩=some (.slice none 0 0):=(Bc hB2.c 6).trans rfl;have e0:=Bf hB2.c 0;have e1:=Bf hB2.c 1;have e2:=Bf hB2.c 2;have e3:=Bf hB2.c 3;have e4:=Bf hB2.c 4;have e5:=Bf hB2.c 5;have e6:=Bf hB2.c 6;have z0:w.heap.size<w2.heap.size:=Bl hB2.c;have zp:p<w2.heap.size:=Bl hB2.q;have ne0:¬w.heap.size=p:=Nat.ne_of_lt hB2.ne;have ne1:¬p=w.heap.size:=Nat.ne_of_gt hB2.ne;clear hH hR hB hB2 hr hr2 hb CT CA;go_wp2;obtain⟨g1,g2,g3⟩:=hfin.out _ rfl;refine bodyPost_ret (Ah rfl _ _ w.heap.size 37 #[.slice A mm c,.int .i64 (At clhT).1.lock,.int .i64 (At clhT).1.unlock,.slice B n1 k1,.slice C n2 k2,.int .i64 0,.slice D i k3] (0,0) _ rfl g1 Tryz.underlying37 rfl (by kernel_rfl)) rfl ⟨_,_,_,_,rfl,g2,x1.out _ rfl,x2.out _ rfl,x3.out _ rfl,g3⟩
def mcstryT:List UInt8:=[108,111,99,107,58,10,116,97,107,101,32,114,55,10,98,101,113,32,114,55,32,114,48,32,102,117,108,108,10,115,116,111,114,101,32,49,32,114,55,32,114,48,10,115,116,111,114,101,32,50,32,114,55,32,114,48,10,115,119,97,112,32,114,54,32,48,32,114,48,32,114,55,10,109,97,114,107,32,49,10,98,101,113,32,114,54,32,114,48,32,103,111,116,10,115,116,111,114,101,32,49,32,114,54,32,114,55,10,99,111,110,115,116,32,114,49,32,49,10,97,119,97,105,116,32,114,50,32,50,32,114,55,32,101,113,32,114,49,32,101,108,115,101,32,108,101,97,118,101,10,103,111,116,58,10,109,97,114,107,32,50,10,100,111,110,101,32,49,10,108,101,97,118,101,58,10,99,111,110,115,116,32,114,51,32,50,10,99,97,115,32,114,52,32,50,32,114,55,32,114,48,32,114,51,10,98,101,113,32,114,52,32,114,48,32,103,111,116,10,109,97,114,107,32,51,10,100,111,110,101,32,48,10,102,117,108,108,58,10,100,111,110,101,32,51,10,117,110,108,111,99,107,58,10,108,111,97,100,32,114,54,32,49,32,114,55,10,98,110,101,32,114,54,32,114,48,32,104,97,110,100,10,99,97,115,32,114,52,32,48,32,114,48,32,114,55,32,114,48,10,98,101,113,32,114,52,32,114,48,32,108,105,110,107,10,109,97,114,107,32,52,10,102,114,101,101,32,114,55,10,100,111,110,101,32,50,10,108,105,110,107,58,10,97,119,97,105,116,32,114,54,32,49,32,114,55,32,110,101,32,114,48,10,104,97,110,100,58,10,99,111,110,115,116,32,114,49,32,49,10,99,97,115,32,114,52,32,50,32,114,54,32,114,48,32,114,49,10,98,101,113,32,114,52,32,114,48,32,115,107,105,112,10,109,97,114,107,32,52,10,102,114,101,101,32,114,55,10,100,111,110,101,32,50,10,115,107,105,112,58,10,102,114,101,101,32,114,55,10,109,111,118,101,32,114,55,32,114,54,10,106,117,109,112,32,117,110,108,111,99,107,10]
theorem mcstry_len:mcstryT.length≤90000:=by decide +kernel
theorem mcstry_few:(At mcstryT).1.l.length≤1000:=by decide +kernel
theorem mcstryText_calls(W:World):Calls Tryz.prog 84 #[] W fun e W'=>e=.returned (.string ⟨mcstryT.toArray⟩)∧W'=W:=by
 go_enter Tryz.func84,Tryz.ntmps84;go_wp2;go_ret;exact⟨rfl,rfl⟩
theorem mcstrySpec_has(k e:Nat)(h1:1≤k)(h2:k≤64)(h3:1≤e)(h4:e≤8)(w:World)(he:Env w):Calls Tryz.prog 55 #[.int .i64 (k:Int),.int .i64 (e:Int)] w (SpecHas w mcstryT [1,(k:Int)*(e:Int)+1,(k:Int)*(e:Int)+1] (List.replicate (2*(k*e)+3) (0:Int)) (List.replicate k (0:Int)) (e:Int)):=by
 have hd1:decide ((k:Int)<1)=false:=decide_eq_false (by omega);have hd2:decide ((64:Int)<(k:Int))=false:=decide_eq_false (by omega);have hd3:decide ((e:Int)<1)=false:=decide_eq_false (by omega);have hd4:decide ((8:Int)<(e:Int))=false:=decide_eq_false (by omega);obtain⟨m,hm,hm2⟩:∃ m:Nat,(k:Int)*(e:Int)=(m:Int)∧m≤512∧2≤m+1 :=
  ⟨k*e,by simp,Nat.le_trans (Nat.mul_le_mul h2 h4) (by decide),by have:=Nat.mul_le_mul h1 h3;omega⟩
 have hm3:2*(k:Int)*(e:Int)=2*(m:Int):=by rw[Int.mul_assoc,hm]
 have hw0:IntKind.i64.wrap ((k:Int)*(e:Int))=(m:Int):=by rw[hm,IntKind.wrap_i64];omega
 have hw1:IntKind.i64.wrap ((m:Int)+1)=(m:Int)+1:=by rw[IntKind.wrap_i64];omega
 have hw2:IntKind.i64.wrap (2*(k:Int))=2*(k:Int):=by rw[IntKind.wrap_i64];omega
 have hw3:IntKind.i64.wrap (2*(k:Int)*(e:Int))=2*(m:Int):=by rw[hm3,IntKind.wrap_i64];omega
 have hw4:IntKind.i64.wrap (2*(m:Int)+3)=2*(m:Int)+3:=by rw[IntKind.wrap_i64];omega
 have hmn:k*e=m:=by omega
 rw[hmn,hm];clear hm hm3 hmn;have CT:=Az (fun W=>mcstryText_calls W);have CA:=Az (fun(W:World) (heW:Env W)=>C9 mcstryT W heW mcstry_len);have hN:=Bv w (.cells #[.slice none 0 0,.int .i64 0,.int .i64 0,.slice none 0 0,.slice none 0 0,.int .i64 0,.slice none 0 0] 37);have hb0:=Bw w (.cells #[.slice none 0 0,.int .i64 0,.int .i64 0,.slice none 0 0,.slice none 0 0,.int .i64 0,.slice none 0 0] 37);obtain⟨w0,hw0⟩:∃ y,w.alloc (.cells #[.slice none 0 0,.int .i64 0,.int .i64 0,.slice none 0 0,.slice none 0 0,.int .i64 0,.slice none 0 0] 37)=y:=⟨_,rfl⟩
 rw[hw0]at hN hb0;go_enter Tryz.func55,Tryz.ntmps55;go_upto_region 3 with fail
 try rw[hw0]
 clear hw0;go_cut [6] (fun v wx=>∃ (p:Nat) (B C D:Option Addr) (n1 n2 k1 k2 k3:Nat),v=.pointer (some ⟨p,0,none⟩)∧Ai (SpB w wx w.heap.size p B C D n1 n2 k k1 k2 k3 ((e:Int)))∧Ai (HRow wx (.slice B n1 k1) 3 (([1,(m:Int)+1,(m:Int)+1]).map (Value.int .i64))∧HRow wx (.slice C n2 k2) 45 ((List.replicate (2*m+3) (0:Int)).map (Value.int .u32))∧HRow wx (.slice D k k3) 45 ((List.replicate k (0:Int)).map (Value.int .u32))))
 case first =>
  refine Aw [] (S:=fun _=>True) (by kernel_rfl) trivial (fun _=>?_);replace hN:=Bk (Bd (Below.refl _ w0)) hN;have hBl:=hb0.trans ((Bd (Below.refl _ w0)).mono hb0.size);clear hb0 CT CA;generalize w0.drew=w0 at *;refine tY 0 (fun _=>trivial) ?_;refine tY 1 (fun _=>trivial) ?_;refine tY 2 (fun _=>trivial) ?_;refine tY 3 (fun _=>trivial) ?_;refine tY 4 (fun _=>trivial) ?_;refine tY 5 (fun _=>trivial) ?_;refine tY 6 (fun _=>trivial) ?_;refine tY 7 (fun _=>trivial) ?_;refine tY 9 (fun _=>trivial) ?_;refine tY 10 (fun _=>trivial) ?_;refine tY 11 (fun _=>trivial) ?_;refine tY 12 (fun _=>trivial) ?_;refine tY 13 (fun _=>trivial) ?_;refine tY 15 (fun _=>trivial) ?_;refine tY 16 (fun _=>trivial) ?_;iterate 4
   all_goals try
    refine Ax (i:=18) (v:=?_) (Ac rfl) (by decide +kernel) (fun _ _ _ h=>h) (.inl ⟨by rfl,?_⟩) (fun _=>trivial) ?_;rotate_left
    ·intro w;go_simp;try with_reducible rfl
    try simp only[Act.put,Sa,Sb,Sc]
   all_goals first
    |refine Ab (rs:=[8,14,17,19]) (by decide +kernel) (by simp) (Aa.cons (Ac rfl) (fun K hK=>?_) (Aa.cons (Ac rfl) (fun K hK=>?_) (Aa.cons (Ac rfl) (fun K hK=>?_) (Aa.cons (Ac rfl) (fun K hK=>?_) Aa.nil))))
    |refine Ab (rs:=[8,14,17]) (by decide +kernel) (by simp) (Aa.cons (Ac rfl) (fun K hK=>?_) (Aa.cons (Ac rfl) (fun K hK=>?_) (Aa.cons (Ac rfl) (fun K hK=>?_) Aa.nil)))
    |refine Ab (rs:=[8,14,19]) (by decide +kernel) (by simp) (Aa.cons (Ac rfl) (fun K hK=>?_) (Aa.cons (Ac rfl) (fun K hK=>?_) (Aa.cons (Ac rfl) (fun K hK=>?_) Aa.nil)))
    |refine Ab (rs:=[8,17,19]) (by decide +kernel) (by simp) (Aa.cons (Ac rfl) (fun K hK=>?_) (Aa.cons (Ac rfl) (fun K hK=>?_) (Aa.cons (Ac rfl) (fun K hK=>?_) Aa.nil)))
    |refine Ab (rs:=[14,17,19]) (by decide +kernel) (by simp) (Aa.cons (Ac rfl) (fun K hK=>?_) (Aa.cons (Ac rfl) (fun K hK=>?_) (Aa.cons (Ac rfl) (fun K hK=>?_) Aa.nil)))
    |refine Ab (rs:=[8,14]) (by decide +kernel) (by simp) (Aa.cons (Ac rfl) (fun K hK=>?_) (Aa.cons (Ac rfl) (fun K hK=>?_) Aa.nil))
    |refine Ab (rs:=[8,17]) (by decide +kernel) (by simp) (Aa.cons (Ac rfl) (fun K hK=>?_) (Aa.cons (Ac rfl) (fun K hK=>?_) Aa.nil))
    |refine Ab (rs:=[8,19]) (by decide +kernel) (by simp) (Aa.cons (Ac rfl) (fun K hK=>?_) (Aa.cons (Ac rfl) (fun K hK=>?_) Aa.nil))
    |refine Ab (rs:=[14,17]) (by decide +kernel) (by simp) (Aa.cons (Ac rfl) (fun K hK=>?_) (Aa.cons (Ac rfl) (fun K hK=>?_) Aa.nil))
    |refine Ab (rs:=[14,19]) (by decide +kernel) (by simp) (Aa.cons (Ac rfl) (fun K hK=>?_) (Aa.cons (Ac rfl) (fun K hK=>?_) Aa.nil))
    |refine Ab (rs:=[17,19]) (by decide +kernel) (by simp) (Aa.cons (Ac rfl) (fun K hK=>?_) (Aa.cons (Ac rfl) (fun K hK=>?_) Aa.nil))
    |refine Ab (rs:=[8]) (by decide +kernel) (by simp) (Aa.cons (Ac rfl) (fun K hK=>?_) Aa.nil)
    |refine Ab (rs:=[14]) (by decide +kernel) (by simp) (Aa.cons (Ac rfl) (fun K hK=>?_) Aa.nil)
    |refine Ab (rs:=[17]) (by decide +kernel) (by simp) (Aa.cons (Ac rfl) (fun K hK=>?_) Aa.nil)
    |refine Ab (rs:=[19]) (by decide +kernel) (by simp) (Aa.cons (Ac rfl) (fun K hK=>?_) Aa.nil)
   all_goals first
    |(refine step_h3 rfl _ _ _ rfl _ _ _ rfl rfl rfl (fun gB wL hb hBk=>?_);replace hN:=Bk hb hN;replace hBl:=hBl.trans (hb.mono hBl.size);(try replace hM:=Bk hb hM);(try replace hR:=Bk hb hR);(try replace hA:=Bk hb hA);clear hb)
    |(refine step_mkz rfl _ rfl _ rfl (2*m+3) (by omega) (by omega) (fun gM wL csM hb hgM hM hsM=>?_);(try have hMR:gM≠gR:=Nat.ne_of_gt (Nat.lt_of_lt_of_le (Bl hR) hgM));have hNM:=Nat.le_trans (Nat.le_of_lt (Bl hN)) hgM;replace hN:=Bk hb hN;replace hBl:=hBl.trans (hb.mono hBl.size);(try replace hBk:=Bk hb hBk);(try replace hR:=Bk hb hR);(try replace hA:=Bk hb hA);clear hb)
    |(refine step_mkz rfl _ rfl _ rfl k (by omega) (by omega) (fun gR wL csR hb hgR hR hsR=>?_);(try have hMR:gM≠gR:=Nat.ne_of_lt (Nat.lt_of_lt_of_le (Bl hM) hgR));replace hN:=Bk hb hN;replace hBl:=hBl.trans (hb.mono hBl.size);(try replace hBk:=Bk hb hBk);(try replace hM:=Bk hb hM);(try replace hA:=Bk hb hA);clear hb)
    |(refine Ea rfl rfl (fun p wL hb hgA hA=>?_);have hNp:=Nat.lt_of_lt_of_le (Bl hN) hgA;replace hN:=Bk hb hN;replace hBl:=hBl.trans (hb.mono hBl.size);(try replace hBk:=Bk hb hBk);(try replace hM:=Bk hb hM);(try replace hR:=Bk hb hR);clear hb)
   all_goals refine hK.out _ _ (fun _=>trivial) (fun _=>?_)
   all_goals clear hK K
   all_goals try simp only[Act.put,Sa,Sb,Sc]
  all_goals try
   refine Ax (i:=18) (v:=?_) (Ac rfl) (by decide +kernel) (fun _ _ _ h=>h) (.inl ⟨by rfl,?_⟩) (fun _=>trivial) ?_;rotate_left
   ·intro w;go_simp;try with_reducible rfl
   try simp only[Act.put,Sa,Sb,Sc]
  all_goals (
   have hMp:gM≠p:=fun e=>by subst e;rw[hA]at hM;cases hM
   have hfin:=Az (Bj hBl (Nat.le_of_lt hNp) hA (.slice none 0 0) (.int .i64 0) (.int .i64 0) (.slice (some ⟨gB,0,none⟩) 3 3) (.slice (some ⟨gM,0,none⟩) (2*m+3) (2*m+3)) (.int .i64 (e:Int)) (.slice (some ⟨gR,0,none⟩) k k));have c0:wL.cell? ⟨p,0,none⟩=some (.slice none 0 0):=(Bc hA 0).trans rfl;have c1:wL.cell? ⟨p,1,none⟩=some (.int .i64 0):=(Bc hA 1).trans rfl;have c2:wL.cell? ⟨p,2,none⟩=some (.int .i64 0):=(Bc hA 2).trans rfl;have c3:wL.cell? ⟨p,3,none⟩=some (.slice none 0 0):=(Bc hA 3).trans rfl;have c4:wL.cell? ⟨p,4,none⟩=some (.slice none 0 0):=(Bc hA 4).trans rfl;have c5:wL.cell? ⟨p,5,none⟩=some (.int .i64 0):=(Bc hA 5).trans rfl;have c6:wL.cell? ⟨p,6,none⟩=some (.slice none 0 0):=(Bc hA 6).trans rfl;have f0:=Bf hA 0;have f1:=Bf hA 1;have f2:=Bf hA 2;have f3:=Bf hA 3;have f4:=Bf hA 4;have f5:=Bf hA 5;have f6:=Bf hA 6;have z0:p<wL.heap.size:=Bl hA;have r1:=HRow.new (([1,(m:Int)+1,(m:Int)+1]).map (Value.int .i64)) hBk rfl (by simp) (fun j u hj=>by simpa using hj);have r2:=HRow.zeros hM (by omega) hsM.2;have r3:=HRow.zeros hR (by omega) hsR.2;have q1:=Az (seven_H hA r1 (by decide) (.slice none 0 0) (.int .i64 0) (.int .i64 0) (.slice (some ⟨gB,0,none⟩) 3 3) (.slice (some ⟨gM,0,none⟩) (2*m+3) (2*m+3)) (.int .i64 (e:Int)) (.slice (some ⟨gR,0,none⟩) k k));have q2:=Az (seven_H hA r2 (by decide) (.slice none 0 0) (.int .i64 0) (.int .i64 0) (.slice (some ⟨gB,0,none⟩) 3 3) (.slice (some ⟨gM,0,none⟩) (2*m+3) (2*m+3)) (.int .i64 (e:Int)) (.slice (some ⟨gR,0,none⟩) k k));have q3:=Az (seven_H hA r3 (by decide) (.slice none 0 0) (.int .i64 0) (.int .i64 0) (.slice (some ⟨gB,0,none⟩) 3 3) (.slice (some ⟨gM,0,none⟩) (2*m+3) (2*m+3)) (.int .i64 (e:Int)) (.slice (some ⟨gR,0,none⟩) k k));have hsZ:=hsM.1;clear r1 r2 r3 hBk hR hsM hsR;replace hN:=Az hN;replace hM:=Az hM;replace hNp:=Az hNp;replace hMp:=Az hMp;clear hA hBl;refine Ab (rs:=[20]) (by kernel_rfl) (by simp) ?_;refine Aa.cons (Ac rfl) (fun K hK=>?_) Aa.nil;go_simp
   go_wp2_with fail
   refine hK.out _ _ (fun _=>trivial) (fun _=>?_);try simp only[Act.put,Sa,Sb,Sc]
   refine AL (by kernel_rfl) ?_ _;go_wp2;go_meet
   obtain⟨g1,g2,g3⟩:=hfin.out _ rfl;exact⟨p,some ⟨gB,0,none⟩,some ⟨gM,0,none⟩,some ⟨gR,0,none⟩,3,2*m+3,3,2*m+3,k,rfl,⟨⟨g2,(g3 _ (Nat.ne_of_lt hNp.out)).trans hN.out,g1,hNp.out⟩⟩,⟨q1.out _ rfl,q2.out _ rfl,q3.out _ rfl⟩⟩)
 case rest =>
  obtain⟨p,B,C,D,n1,n2,k1,k2,k3,rfl,hB,hH⟩:=hcut;go_wp2_with fail
  refine(CT.out _).mono ?_;rintro e w1 ⟨rfl,rfl⟩;go_wp2_with fail
  refine(CA.out _ (he.below hB.out.b)).mono ?_;rintro e w2 ⟨va,rfl,hr,hb⟩;have hB2:=hB.out.keep hb;have hr2:=hr.mono hB.out.b.size;obtain⟨A,mm,c,rfl⟩:=AB hr;have x1:=Az (hB2.finH (va:=.slice A mm c) (At mcstryT).1.lock (At mcstryT).1.unlock (hH.out.1.keep hb) (by decide));have x2:=Az (hB2.finH (va:=.slice A mm c) (At mcstryT).1.lock (At mcstryT).1.unlock (hH.out.2.1.keep hb) (by decide));have x3:=Az (hB2.finH (va:=.slice A mm c) (At mcstryT).1.lock (At mcstryT).1.unlock (hH.out.2.2.keep hb) (by decide));have hfin:=Az (hB2.fin (At mcstryT).1.lock (At mcstryT).1.unlock hr2);have c0:w2.cell? ⟨p,0,none⟩=some (.slice none 0 0):=(Bc hB2.q 0).trans rfl;have c1:w2.cell? ⟨p,1,none⟩=some (.int .i64 0):=(Bc hB2.q 1).trans rfl;have c2:w2.cell? ⟨p,2,none⟩=some (.int .i64 0):=(Bc hB2.q 2).trans rfl;have c3:w2.cell? ⟨p,3,none⟩=some (.slice B n1 k1):=(Bc hB2.q 3).trans rfl;have c4:w2.cell? ⟨p,4,none⟩=some (.slice C n2 k2):=(Bc hB2.q 4).trans rfl;have c5:w2.cell? ⟨p,5,none⟩=some (.int .i64 (e:Int)):=(Bc hB2.q 5).trans rfl;have c6:w2.cell? ⟨p,6,none⟩=some (.slice D k k3):=(Bc hB2.q 6).trans rfl;have f0:=Bf hB2.q 0;have f1:=Bf hB2.q 1;have f2:=Bf hB2.q 2;have d0:w2.cell? ⟨w.heap.size,0,none⟩=some (.slice none 0 0):=(Bc hB2.c 0).trans rfl;have d1:w2.cell? ⟨w.heap.size,1,none⟩=some (.int .i64 0):=(Bc hB2.c 1).trans rfl;have d2:w2.cell? ⟨w.heap.size,2,none⟩=some (.int .i64 0):=(Bc hB2.c 2).trans rfl;have d3:w2.cell? ⟨w.heap.size,3,none⟩=some (.slice none 0 0):=(Bc hB2.c 3).trans rfl;have d4:w2.cell? ⟨w.heap.size,4,none⟩=some (.slice none 0 0):=(Bc hB2.c 4).trans rfl;have d5:w2.cell? ⟨w.heap.size,5,none⟩=some (.int .i64 0):=(Bc hB2.c 5).trans rfl;have d6:w2.cell? ⟨w.heap.size,6,none⟩=some (.slice none 0 0):=(Bc hB2.c 6).trans rfl;have e0:=Bf hB2.c 0;have e1:=Bf hB2.c 1;have e2:=Bf hB2.c 2;have e3:=Bf hB2.c 3;have e4:=Bf hB2.c 4;have e5:=Bf hB2.c 5;have e6:=Bf hB2.c 6;have z0:w.heap.size<w2.heap.size:=Bl hB2.c;have zp:p<w2.heap.size:=Bl hB2.q;have ne0:¬w.heap.size=p:=Nat.ne_of_lt hB2.ne;have ne1:¬p=w.heap.size:=Nat.ne_of_gt hB2.ne;clear hH hB hB2 hr hr2 hb CT CA;go_wp2;obtain⟨g1,g2,g3⟩:=hfin.out _ rfl;refine bodyPost_ret (Ah rfl _ _ w.heap.size 37 #[.slice A mm c,.int .i64 (At mcstryT).1.lock,.int .i64 (At mcstryT).1.unlock,.slice B n1 k1,.slice C n2 k2,.int .i64 (e:Int),.slice D k k3] (0,0) _ rfl g1 Tryz.underlying37 rfl (by kernel_rfl)) rfl ⟨_,_,_,_,rfl,g2,x1.out _ rfl,x2.out _ rfl,x3.out _ rfl,g3⟩
theorem mcstrySpec_no(n m:Int)(h:n<1∨64<n∨m<1∨8<m)(w:World):Calls Tryz.prog 55 #[.int .i64 n,.int .i64 m] w (DS w):=by
 have hN:=Bv w (.cells #[.slice none 0 0,.int .i64 0,.int .i64 0,.slice none 0 0,.slice none 0 0,.int .i64 0,.slice none 0 0] 37);have hb0:=Bw w (.cells #[.slice none 0 0,.int .i64 0,.int .i64 0,.slice none 0 0,.slice none 0 0,.int .i64 0,.slice none 0 0] 37);have hfin:=Dl hb0 hN;obtain⟨w0,hw0⟩:∃ y,w.alloc (.cells #[.slice none 0 0,.int .i64 0,.int .i64 0,.slice none 0 0,.slice none 0 0,.int .i64 0,.slice none 0 0] 37)=y:=⟨_,rfl⟩
 rw[hw0]at hfin hN;have d0:w0.cell? ⟨w.heap.size,0,none⟩=some (.slice none 0 0):=(Bc hN 0).trans rfl;have d1:w0.cell? ⟨w.heap.size,1,none⟩=some (.int .i64 0):=(Bc hN 1).trans rfl;have d2:w0.cell? ⟨w.heap.size,2,none⟩=some (.int .i64 0):=(Bc hN 2).trans rfl;have d3:w0.cell? ⟨w.heap.size,3,none⟩=some (.slice none 0 0):=(Bc hN 3).trans rfl;have d4:w0.cell? ⟨w.heap.size,4,none⟩=some (.slice none 0 0):=(Bc hN 4).trans rfl;have d5:w0.cell? ⟨w.heap.size,5,none⟩=some (.int .i64 0):=(Bc hN 5).trans rfl;have d6:w0.cell? ⟨w.heap.size,6,none⟩=some (.slice none 0 0):=(Bc hN 6).trans rfl;have e0:=Bf hN 0;have e1:=Bf hN 1;have e2:=Bf hN 2;have e3:=Bf hN 3;have e4:=Bf hN 4;have e5:=Bf hN 5;have e6:=Bf hN 6;have z0:w.heap.size<w0.heap.size:=Bl hN;replace hfin:=Az hfin;clear hN hb0;go_enter Tryz.func55,Tryz.ntmps55;go_upto_region 1 with fail
 try rw[hw0]
 clear hw0;go_cut [20] (fun v wx=>v=.bool true∧wx=w0)
 case first =>
  rcases h with h |h |h |h
  ·have hd1:decide (n<1)=true:=decide_eq_true h;go_wp2;go_meet
   exact⟨rfl,rfl⟩
  ·have hd1:decide (n<1)=false:=decide_eq_false (by omega);have hd2:decide (64<n)=true:=decide_eq_true h;go_wp2;go_meet
   exact⟨rfl,rfl⟩
  ·by_cases a1:n<1
   ·have hd1:decide (n<1)=true:=decide_eq_true a1;go_wp2;go_meet
    exact⟨rfl,rfl⟩
   ·have hd1:decide (n<1)=false:=decide_eq_false a1;by_cases a2:64<n
    ·have hd2:decide (64<n)=true:=decide_eq_true a2;go_wp2;go_meet
     exact⟨rfl,rfl⟩
    ·have hd2:decide (64<n)=false:=decide_eq_false a2;have hd3:decide (m<1)=true:=decide_eq_true h;go_wp2;go_meet
     exact⟨rfl,rfl⟩
  ·have hd3:decide (m<1)=false:=decide_eq_false (by omega);have hd4:decide (8<m)=true:=decide_eq_true h;by_cases a1:n<1
   ·have hd1:decide (n<1)=true:=decide_eq_true a1;go_wp2;go_meet
    exact⟨rfl,rfl⟩
   ·have hd1:decide (n<1)=false:=decide_eq_false a1;by_cases a2:64<n
    ·have hd2:decide (64<n)=true:=decide_eq_true a2;go_wp2;go_meet
     exact⟨rfl,rfl⟩
    ·have hd2:decide (64<n)=false:=decide_eq_false a2;go_wp2;go_meet
     exact⟨rfl,rfl⟩
 case rest =>
  obtain⟨rfl,rfl⟩:=hcut;go_wp2;obtain⟨g1,g2⟩:=hfin.out _ rfl;refine bodyPost_ret (Ah rfl _ _ w.heap.size 37 #[.slice none 0 0,.int .i64 0,.int .i64 0,.slice none 0 0,.slice none 0 0,.int .i64 0,.slice none 0 0] (0,0) _ rfl g1 Tryz.underlying37 rfl (by kernel_rfl)) rfl ⟨rfl,g2⟩
end
end Go.Proofs.YtjjpiefgdggghaaGreatDoor

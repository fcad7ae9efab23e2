/- clh.Spec with its rows. -/
import Derived.Test.YtnmahobjmpdkdaaGreatDoorQ02
import Derived.Test.YtnmahobjmpdkdaaGreatDoorQSpecClh
import Derived.Test.YtnmahobjmpdkdaaGreatDoorQ25
set_option linter.unusedVariables false
set_option linter.unusedSimpArgs false
set_option maxRecDepth 100000
set_option maxHeartbeats 40000000
namespace Go.Proofs.YtnmahobjmpdkdaaGreatDoor
section
open Go.RowKit Go.Proofs.YtnmahobjmpdkdaaGreatDoorW.PrintWords
theorem HRow.grown{W W1:World}{v:Value}{t:TypeId}{cs:List Value}{row:Option Nat}(h:HRow W v t cs)(hg:W.grownBy W1 row)(hne:∀ (g n c:Nat) (arr:Array Value),v=.slice (some ⟨g,0,none⟩) n c→W.heap[g]?=some (.cells arr t (0,0))→some g≠row):HRow W1 v t cs:=by
 rcases h with h |⟨g',c,arr',h1,h2,h3,h4,h5⟩
 ·exact .inl h
 ·exact .inr ⟨g',c,arr',h1,h2,h3,(hg.block g' (Bl h4) (hne _ _ _ _ h1 h4)).trans h4,h5⟩
theorem Ra{W:World}{base:Nat}{v:Value}{xs:List Int}(h:DU W base v xs):HRow W v 22 (xs.map (Value.int .u32)):=by
 obtain⟨h1,h2⟩:=h;rcases h2 with ⟨rfl,h0⟩ |⟨g,cap,cur,rfl,hg,hh,hc,hm,hs,ht⟩
 ·have:xs=[]:=List.eq_nil_of_length_eq_zero h0;subst this;exact .inl ⟨rfl,_,_,rfl⟩
 ·by_cases hn:0<xs.length
  ·refine .inr ⟨g,cap,cur,by simp,by simpa using hc,by simpa using hn,hh,fun j u hj=>?_⟩;have hlt:j<xs.length:=by have:=(List.getElem?_eq_some_iff.1 hj).1;simpa using this
   rw[←ht,List.getElem?_take_of_lt (by omega),Array.getElem?_toList]at hj;exact hj
  ·have h0:xs.length=0:=by omega
   have:xs=[]:=List.eq_nil_of_length_eq_zero h0;subst this;exact .inl ⟨rfl,_,_,rfl⟩
theorem SpB.Qr{w W W1:World}{N M p:Nat}{B C D:Option Addr}{n1 n2 n3 k1 k2 k3:Nat}{each:Int}{v:Value}{xs:List Int}(h:SpB w W N p B C D n1 n2 n3 k1 k2 k3 each)(hM:N≤M)(hr:DU W M v xs)(hg:W.grownBy W1 v.ownBlock):SpB w W1 N p B C D n1 n2 n3 k1 k2 k3 each :=
 ⟨h.b.grown hg (Nat.le_of_lt (Bl h.c)) (fun k hk=>Nat.le_trans hM (Ob hr k hk)),Bg h.c hg (Oa hr h.c (by decide)),Bg h.q hg (Oa hr h.q (by decide)),h.ne⟩
theorem OS(k:Nat)(h1:1≤k)(h2:k≤64)(w:World)(he:Env w):Calls Tryz.prog 37 #[.int .i64 (k:Int)] w (SpecHas w CX [1,(k:Int)+1] (List.replicate (k+2) (0:Int)) ((List.range k).map fun i:Nat=>(i:Int)+1) 0):=by
 have hd1:decide ((k:Int)<1)=false:=decide_eq_false (by omega);have hd2:decide ((64:Int)<(k:Int))=false:=decide_eq_false (by omega);have hw0:IntKind.i64.wrap ((k:Int)+1)=(k:Int)+1:=by rw[IntKind.wrap_i64];omega
 have hw1:IntKind.i64.wrap ((k:Int)+2)=(k:Int)+2:=by rw[IntKind.wrap_i64];omega
 obtain⟨cs,hcs,hz,hmk⟩:=HG (k+2) (by omega);have e2:((k+2:Nat):Int)=(k:Int)+2:=by omega
 rw[e2]at hmk;clear e2;replace hz:=Az hz;have CT:=Az (fun W=>H4 W);have CA:=Az (fun(W:World) (heW:Env W)=>EL CX W heW Nx);have hN:=Bv w (.cells #[.slice none 0 0,.int .i64 0,.int .i64 0,.slice none 0 0,.slice none 0 0,.int .i64 0,.slice none 0 0] 38);have hb0:=Bw w (.cells #[.slice none 0 0,.int .i64 0,.int .i64 0,.slice none 0 0,.slice none 0 0,.int .i64 0,.slice none 0 0] 38);obtain⟨w0,hw0'⟩:∃ y,w.alloc (.cells #[.slice none 0 0,.int .i64 0,.int .i64 0,.slice none 0 0,.slice none 0 0,.int .i64 0,.slice none 0 0] 38)=y:=⟨_,rfl⟩
 rw[hw0']at hN hb0;go_enter Tryz.func37,Tryz.ntmps37;go_upto_region 3 with fail
 try rw[hw0']
 clear hw0';replace hN:=Az hN;replace hb0:=Az hb0;go_cut [4] (fun v wx=>∃ (p:Nat) (B C:Option Addr) (n1 n2 k1 k2:Nat),v=.pointer (some ⟨p,0,none⟩)∧Af (SpB w wx w.heap.size p B C none n1 n2 0 k1 k2 0 0)∧Af ((HRow wx (.slice B n1 k1) 3 (([1,(k:Int)+1]:List Int).map (Value.int .i64))∧HRow wx (.slice C n2 k2) 22 ((List.replicate (k+2) (0:Int)).map (Value.int .u32)))∧∀ (g n c:Nat),Value.slice C n2 k2=.slice (some ⟨g,0,none⟩) n c→g<wx.heap.size))
 case first =>
  go_wp2;go_meet
  have hlt:=Bl hN.out;refine⟨_,some ⟨w0.heap.size,0,none⟩,some ⟨w0.heap.size+1,0,none⟩,2,k+2,2,k+2,rfl,⟨⟨?_,?_,?_,?_⟩⟩,⟨⟨?_,?_⟩,?_⟩⟩
  ·exact((hb0.out.trans ((Bw w0 _).mono hb0.out.size)).alloc (by simp;omega) _).alloc (by simp;omega) _
  ·exact AJ (AJ (AJ hN.out _) _) _
  ·exact Dk (by simp) _
  ·omega
  ·exact HRow.new (([1,(k:Int)+1]:List Int).map (Value.int .i64)) (AJ (AJ (Bv w0 _) _) _) rfl (by simp) (fun j u hj=>by simpa using hj)
  ·exact HRow.zeros (AJ (Dk (by simp) _) _) (by omega) hz.out
  ·intro g n c e;injection e with e1
   injection e1 with e1
   injection e1 with e1
   subst e1;simp
 case rest =>
  obtain⟨p,B,C,n1,n2,k1,k2,rfl,hB,hH⟩:=hcut;clear hN hb0 hmk hz;obtain⟨M,hM⟩:∃ M,wc.heap.size=M:=⟨_,rfl⟩
  have hMw:w.heap.size≤M:=hM▸Nat.le_of_lt (Bl hB.out.c);have hC:=Az (show ∀ (g n c:Nat),Value.slice C n2 k2=.slice (some ⟨g,0,none⟩) n c→g<M from fun g n c e=>hM▸hH.out.2 g n c e);replace hH:=Az hH.out.1;replace hMw:=Az (And.intro hMw (Nat.le_of_eq hM.symm));clear hM;go_wp2_with fail
  go_loopw [21] (fun v21 wr=>∃ (i:Nat) (D:Option Addr) (k3:Nat) (xs:List Int),v21=.int .i64 i∧i≤k∧Af (SpB w wr w.heap.size p B C D n1 n2 i k1 k2 k3 0)∧Af (xs.length=i∧DU wr M (.slice D i k3) xs)∧Af (xs=(List.range i).map fun i:Nat=>(i:Int)+1)∧Af ((HRow wr (.slice B n1 k1) 3 (([1,(k:Int)+1]:List Int).map (Value.int .i64))∧HRow wr (.slice C n2 k2) 22 ((List.replicate (k+2) (0:Int)).map (Value.int .u32)))∧M≤wr.heap.size)) (fun v21 _=>k-(intOf v21).toNat)
  case atStart=>exact⟨0,none,0,[],rfl,Nat.zero_le _,hB,⟨rfl,rfl,.inl ⟨rfl,rfl⟩⟩,⟨rfl⟩,⟨hH.out,hMw.out.2⟩⟩
  case round =>
   obtain⟨i,D,k3,xs,rfl,hik,hB,hX,hxs,hH⟩:=hrel;by_cases hlt:i<k
   ·have c6:wr.cell? ⟨p,6,none⟩=some (.slice D i k3):=(Bc hB.out.q 6).trans rfl;have hi1:(i:Int)<(k:Int):=by omega
    have Q8:IntKind.i64.wrap ((i:Int)+1)=(i:Int)+1:=by rw[IntKind.wrap_i64];omega
    have hiu:IntKind.u32.wrap ((i:Int)+1)=(i:Int)+1:=by rw[IntKind.wrap_u32];omega
    have hk2:=Bw wr (.cells #[.int .u32 ((i:Int)+1)] 22);have hr0:DU (wr.alloc (.cells #[.int .u32 ((i:Int)+1)] 22)) M (.slice D i k3) xs:=Om hX.out.2 (fun k hk=>hk2.block k (Ol hX.out.2 k hk));have hB2:=hB.out.keep hk2;have hsz:M≤(wr.alloc (.cells #[.int .u32 ((i:Int)+1)] 22)).heap.size:=Nat.le_trans hH.out.2 hk2.size;have hH2:=Az (And.intro (hH.out.1.1.keep hk2) (hH.out.1.2.keep hk2));replace hr0:=Az hr0;replace hB2:=Az hB2;replace hsz:=Az hsz;clear hk2;go_wp2_with (at_builtin;refine Ny rfl (.tmp 25) (.tmp 29) rfl M wr.heap.size ((i:Int)+1) (.slice D i k3) xs rfl hr0.out rfl (Bv _ _) ?hl ?hb ?_)
    case hl=>have:=hX.out.1;omega
    case hb=>exact hsz.out
    intro v' W2 hr hg _;have hB3:=hB2.out.Qr hMw.out.1 hr0.out hg;have hH3:=And.intro (hH2.out.1.grown hg (fun g n c arr e h4=>Oa hr0.out h4 (by decide))) (hH2.out.2.grown hg (fun g n c arr e h4 e2=>by have h1:=hC.out g n c e;have h2:=Ob hr0.out g e2.symm;omega));have hM2:M≤W2.heap.size:=Nat.le_trans hsz.out hg.size;obtain⟨D',c',rfl⟩:=hr.some (by simp);have hlen:(xs++[(i:Int)+1]).length=i+1:=by rw[List.length_append,hX.out.1];rfl
    rw[hlen]at hr ⊢;have c62:W2.cell? ⟨p,6,none⟩=some (.slice D i k3):=(Bc hB3.q 6).trans rfl;have f62:=Bf hB3.q 6;have z62:p<W2.heap.size:=Bl hB3.q;have hB4:=Az (hB3.r7 D' (i+1) c');have hH4:=Az (And.intro (hH3.1.far (i:=6) (x:=.slice D' (i+1) c') hB3.q (by decide)) (hH3.2.far (i:=6) (x:=.slice D' (i+1) c') hB3.q (by decide)));have hxs2:=Az (show xs++[(i:Int)+1]=(List.range (i+1)).map fun i:Nat=>(i:Int)+1 by rw[hxs.out,List.range_succ,List.map_append];rfl);replace hM2:=Az hM2;have hr4:=Az (Rs hr hB3.q (by decide) 6 (.slice D' (i+1) c'));replace hlen:=Az hlen;clear hB3 hr hg hB2 hr0 c6 hH3 hH2 hH hxs;go_wp2;go_roundw
    case rel=>exact⟨i+1,D',c',_,by go_num,hlt,hB4,⟨hlen.out,hr4.out⟩,hxs2,⟨hH4.out,by simpa using hM2.out⟩⟩
    case measure=>simp[intOf];omega
   ·obtain rfl:i=k:=by omega
    have hge:¬(i:Int)<(i:Int):=by omega
    have hR:=Az (Ra hX.out.2);rw[hxs.out]at hR;clear hX hlt hik hxs;go_wp2_with fail
    refine(CT.out _).mono ?_;rintro e w1 ⟨rfl,rfl⟩;go_wp2_with fail
    refine(CA.out _ (he.below hB.out.b)).mono ?_;rintro e w2 ⟨va,rfl,hr,hb⟩;have hB2:=hB.out.keep hb;have hr2:=hr.mono hB.out.b.size;obtain⟨A,mm,c,rfl⟩:=AK hr;have x1:=Az (hB2.finH (va:=.slice A mm c) (BE CX).1.lock (BE CX).1.unlock (hH.out.1.1.keep hb) (by decide));have x2:=Az (hB2.finH (va:=.slice A mm c) (BE CX).1.lock (BE CX).1.unlock (hH.out.1.2.keep hb) (by decide));have x3:=Az (hB2.finH (va:=.slice A mm c) (BE CX).1.lock (BE CX).1.unlock (hR.out.keep hb) (by decide));have hfin:=Az (hB2.fin (BE CX).1.lock (BE CX).1.unlock hr2);have c0:w2.cell? ⟨p,0,none⟩=some (.slice none 0 0):=(Bc hB2.q 0).trans rfl;have c1:w2.cell? ⟨p,1,none⟩=some (.int .i64 0):=(Bc hB2.q 1).trans rfl;have c2:w2.cell? ⟨p,2,none⟩=some (.int .i64 0):=(Bc hB2.q 2).trans rfl;have c3:w2.cell? ⟨p,3,none⟩=some (.slice B n1 k1):=(Bc hB2.q 3).trans rfl;have c4:w2.cell? ⟨p,4,none⟩=some (.slice C n2 k2):=(Bc hB2.q 4).trans rfl;have c5:w2.cell? ⟨p,5,none⟩=some (.int .i64 0):=(Bc hB2.q 5).trans rfl;have c6:w2.cell? ⟨p,6,none⟩=some (.slice D i k3):=(Bc hB2.q 6).trans rfl;have f0:=Bf hB2.q 0;have f1:=Bf hB2.q 1;have f2:=Bf hB2.q 2;have d0:w2.cell? ⟨w.heap.size,0,none⟩=some (.slice none 0 0):=(Bc hB2.c 0).trans rfl;have d1:w2.cell? ⟨w.heap.size,1,none⟩=some (.int .i64 0):=(Bc hB2.c 1).trans rfl;have d2:w2.cell? ⟨w.heap.size,2,none⟩=some (.int .i64 0):=(Bc hB2.c 2).trans rfl;have d3:w2.cell? ⟨w.heap.size,3,none⟩=some (.slice none 0 0):=(Bc hB2.c 3).trans rfl;have d4:w2.cell? ⟨w.heap.size,4,none⟩=some (.slice none 0 0):=(Bc hB2.c 4).trans rfl;have d5:w2.cell? ⟨w.heap.size,5,none⟩=some (.int .i64 0):=(Bc hB2.c 5).trans rfl;have d6:w2.cell? ⟨w.heap.size,6,none⟩=some (.slice none 0 0):=(Bc hB2.c 6).trans rfl;have e0:=Bf hB2.c 0;have e1:=Bf hB2.c 1;have e2:=Bf hB2.c 2;have e3:=Bf hB2.c 3;have e4:=Bf hB2.c 4;have e5:=Bf hB2.c 5;have e6:=Bf hB2.c 6;have z0:w.heap.size<w2.heap.size:=Bl hB2.c;have zp:p<w2.heap.size:=Bl hB2.q;have ne0:¬w.heap.size=p:=Nat.ne_of_lt hB2.ne;have ne1:¬p=w.heap.size:=Nat.ne_of_gt hB2.ne;clear hH hR hB hB2 hr hr2 hb CT CA;go_wp2;obtain⟨g1,g2,g3⟩:=hfin.out _ rfl;refine bodyPost_ret (AL rfl _ _ w.heap.size 38 #[.slice A mm c,.int .i64 (BE CX).1.lock,.int .i64 (BE CX).1.unlock,.slice B n1 k1,.slice C n2 k2,.int .i64 0,.slice D i k3] (0,0) _ rfl g1 Tryz.underlying38 rfl (by kernel_rfl)) rfl ⟨_,_,_,_,rfl,g2,x1.out _ rfl,x2.out _ rfl,x3.out _ rfl,g3⟩
end
end Go.Proofs.YtnmahobjmpdkdaaGreatDoor

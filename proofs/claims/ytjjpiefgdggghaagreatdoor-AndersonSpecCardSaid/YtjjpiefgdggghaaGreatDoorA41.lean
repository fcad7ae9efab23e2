/- Parts: ExStep, RunOp, RunOps, Trace. -/
import Derived.Test.YtjjpiefgdggghaaGreatDoorA03
import Derived.Test.YtjjpiefgdggghaaGreatDoorA13
import Derived.Test.YtjjpiefgdggghaaGreatDoorA37
import Derived.Test.YtjjpiefgdggghaaGreatDoorA36
import Derived.Test.YtjjpiefgdggghaaGreatDoorA35
import Derived.Test.YtjjpiefgdggghaaGreatDoorA39
set_option linter.unusedVariables false
set_option linter.unusedSimpArgs false
set_option maxRecDepth 100000
set_option maxHeartbeats 40000000
namespace Go.Proofs.YtjjpiefgdggghaaGreatDoor
section
open Go.RowKit Go.Proofs.YtjjpiefgdggghaaGreatDoorW.PrintWords
theorem I4(w W:World)(px:Nat)(vl vc vw vr:Value)(pl:Option Addr)(M:Nat→Prop)(x:AF)(t:Nat)(late:Int)(h:CS w W px vl vc vw vr pl x)(ht:t<x.AG.length)(ht2:x.AG.length≤64)(hok:∀ i∈x.pg.l,GQ i)(hlen:x.pg.l.length≤64)
  (hcl:x.cells.length≤10000)(hwl:x.words.length=x.cells.length)(hno:∀ i∈x.pg.l,i.op≠22∧i.op≠23∧i.op≤23) :
  Calls Tryz.prog 75 #[.pointer (some ⟨px,0,none⟩),.int .i64 t,.int .i64 late] W (FT w W px vl vc vw vr pl M (x.step t (decide (late≠0)))):=by
 have hco:=h.core ht;obtain⟨d0,d1,d2,d3,d4,d5,d6,d7,d8,hd⟩:=BU hco.len;obtain⟨g,cap,hv,hg,_,_⟩:=h.row ht;obtain⟨A,capc,hvl⟩:=h.code.slice;obtain⟨n,hn⟩:∃ n,x.AG.length=n:=⟨_,rfl⟩
 obtain⟨m,hm⟩:∃ m,x.pg.l.length=m:=⟨_,rfl⟩
 rw[hn]at hv;rw[hm]at hvl;subst hv;subst hvl;have t0:(0:Int)≤(t:Int):=by omega
 have t1:(t:Int)<(n:Int):=by omega
 have hNW:=h.b.size;obtain⟨W0,hW0⟩:∃ X,W.alloc (.cells #[.slice none 0 0,.int .i64 0,.int .i64 0,.int .i64 0,.int .i64 0,.int .i64 0] 135)=X:=⟨_,rfl⟩
 have hB0:Below W.heap.size W W0:=by rw[←hW0];exact Bw W _
 have b6:W0.heap[W.heap.size]?=some (.cells TZ 135 (0,0)):=by rw[←hW0];exact Bv W _
 have hE0:=h.keep hB0;obtain⟨_,_,_,_,_,_,c6⟩:=hE0.Ut;obtain⟨r0,r1,r2,r3,r4,r5,r6,r7,r8⟩:=hE0.Uu ht hd;have hne9:∀ k,(Value.slice (some ⟨g,0,none⟩) n cap).ownBlock=some k→k≠W0.heap.size:=fun k hk=>by
  have:=Ol h.AG k hk;have:=hB0.size;omega
 have hI:II w W ((W0.alloc (.cells #[.int .i64 d0,.int .i64 d1,.int .i64 d2,.int .i64 d3,.int .i64 d4,.int .i64 d5,.int .i64 d6,.int .i64 d7,.int .i64 d8] 155)).alloc (.cells #[.slice none 0 0,.int .i64 (-1),.int .i64 (-1),.int .i64 0,.int .i64 0,.int .i64 11] 135)) px (.slice A m capc) vc vw (.slice (some ⟨g,0,none⟩) n cap) pl x (x.core t) W.heap.size W0.heap.size (W0.heap.size+1):=by
  have hb1:Below W0.heap.size W0 ((W0.alloc (.cells #[.int .i64 d0,.int .i64 d1,.int .i64 d2,.int .i64 d3,.int .i64 d4,.int .i64 d5,.int .i64 d6,.int .i64 d7,.int .i64 d8] 155)).alloc (.cells #[.slice none 0 0,.int .i64 (-1),.int .i64 (-1),.int .i64 0,.int .i64 0,.int .i64 11] 135)):=((Below.refl _ W0).alloc (Nl _) _).alloc (by simp) _;exact⟨hE0.keep hb1,(BX.Cj hB0).then hb1,Nl _,hB0.size,hne9,Bk hb1 b6,by rw[hd];exact AZ (Bv W0 _) _,Cv W0 _ _,hco⟩
 have hN7:=hB0.size;obtain⟨W1,hW1⟩:∃ X,(W0.alloc (.cells #[.int .i64 d0,.int .i64 d1,.int .i64 d2,.int .i64 d3,.int .i64 d4,.int .i64 d5,.int .i64 d6,.int .i64 d7,.int .i64 d8] 155)).alloc (.cells #[.slice none 0 0,.int .i64 (-1),.int .i64 (-1),.int .i64 0,.int .i64 0,.int .i64 11] 135)=X:=⟨_,rfl⟩
 rw[hW1]at hI;replace h:=Az h;replace hI:=Az hI;clear hE0 hB0;obtain⟨fin,hfin⟩:∃ r,x.step t (decide (late≠0))=r:=⟨_,rfl⟩
 rw[hfin];replace hfin:=Az hfin;go_enter Tryz.func75,Tryz.ntmps75;go_wp2_with fail
 try rw[hW1]
 clear hW1 hW0 r0 r1 r2 r3 r4 r5 r6 r7 r8 c6 b6;generalize W0.heap.size+1=N8 at *;generalize W0.heap.size=N7 at *;have hvals:=hI.out;have p8:=(Bc hvals.b7 8).trans (Ih hco.len);obtain⟨l0,_,_,l3,l4,_,l6⟩:=hvals.e.Ut;have hQ:∀ W2,Below W1.heap.size W1 W2→∀ (a:Act),a.defers=[]→a.tmps.getD 6 undef=.pointer (some ⟨W.heap.size,0,none⟩)→fin=(x,EG)→∀ W',W'=((((((W2.setCell ⟨W.heap.size,0,none⟩ (.slice none 0 0)).setCell ⟨W.heap.size,1,none⟩ (.int .i64 (-1))).setCell ⟨W.heap.size,2,none⟩ (.int .i64 (-1))).setCell ⟨W.heap.size,3,none⟩ (.int .i64 0)).setCell ⟨W.heap.size,4,none⟩ (.int .i64 0)).setCell ⟨W.heap.size,5,none⟩ (.int .i64 11))→bodyPost Tryz.prog Tryz.f75 (FT w W px (.slice A m capc) vc vw (.slice (some ⟨g,0,none⟩) n cap) pl M fin) .ret a W'∧bodyPost Tryz.prog Tryz.f75 (FT w W px (.slice A m capc) vc vw (.slice (some ⟨g,0,none⟩) n cap) pl M fin) .ret a W'.drew:=by
  rintro W2 hb a hd h6 rfl W' hW';exact(hI.out.keep hb).out hNW M EG none 0 (AS.nil _ _) a hd h6 W' hW'
 replace hQ:=Az hQ;have hpc:CoreM.pc (x.core t)=(x.core t).pc:=rfl;by_cases hneg:(x.core t).pc<0
 ·have hf:fin=(x,EG):=by rw[←hfin.out,AF.step];exact if_pos (.inl hneg)
  replace hf:=Az hf;clear hfin;go_region
  obtain⟨x0,x1,x2,x3,x4,x5⟩:=IU hvals.b8;obtain⟨q0,q1,q2,q3,q4,q5⟩:=IU hvals.b6;obtain⟨y0,y1,y2,y3,y4,y5⟩:=Od hvals.b6;replace hvals:=Az hvals;go_wp2;exact(hQ.out _ (Below.refl _ _) _ rfl rfl hf.out _ rfl).2
 ·by_cases hge:(x.core t).pc≥x.pg.l.length
  ·have hf:fin=(x,EG):=by rw[←hfin.out,AF.step];exact if_pos (.inr hge)
   replace hf:=Az hf;clear hfin;rw[hm]at hge;have hge':(m:Int)≤(x.core t).pc:=hge;go_region
   obtain⟨x0,x1,x2,x3,x4,x5⟩:=IU hvals.b8;obtain⟨q0,q1,q2,q3,q4,q5⟩:=IU hvals.b6;obtain⟨y0,y1,y2,y3,y4,y5⟩:=Od hvals.b6;replace hvals:=Az hvals;go_wp2;exact(hQ.out _ (Below.refl _ _) _ rfl rfl hf.out _ rfl).2
  ·obtain⟨p,hp⟩:∃ p:Nat,(x.core t).pc=p:=⟨(x.core t).pc.toNat,by omega⟩
   have hpl:p<x.pg.l.length:=by omega
   have hpm:p<m:=by rw[←hm];exact hpl
   rw[hp]at p8 hneg;have p0:(0:Int)≤(p:Int):=by omega
   have p1:(p:Int)<(m:Int):=by omega
   have p2:¬(p:Int)≥(m:Int):=by omega
   have hcode:=h.out.code;rw[hm]at hcode;obtain⟨gc,c',hv2,hcell⟩:=(hcode.keep hvals.e.b).cells (by omega);obtain⟨rfl,rfl⟩:A=some ⟨gc,0,none⟩∧capc=c':=by injection hv2 with h1 h2 h3;exact⟨h1,h3⟩
   obtain⟨⟨op,d,s,tt,u,a,k,q⟩,hi⟩:∃ i,x.pg.l.getD p In.zero=i:=⟨_,rfl⟩
   obtain⟨i0,i1,i2,i3,i4,i5,i6,i7⟩:=D7 hcell hpl hi;have himem:(⟨op,d,s,tt,u,a,k,q⟩:In)∈x.pg.l:=by rw[←hi,List.getD_eq_getElem?_getD,List.getElem?_eq_getElem hpl];exact List.getElem_mem _
   have hok1:=hok _ himem;have hno1:=hno _ himem;simp only at hno1;have hfin2:=hfin.out;unfold AF.step at hfin2;simp only[hp,Int.toNat_natCast,hi]at hfin2;rw[if_neg (by rw[hm];omega)]at hfin2;clear hcell hv2 hge hfin hcode himem;by_cases h16:op<16
   ·rw[if_pos h16]at hfin2;replace hfin2:=Az hfin2;go_region
    obtain⟨x0,x1,x2,x3,x4,x5⟩:=IU hvals.b8;obtain⟨q0,q1,q2,q3,q4,q5⟩:=IU hvals.b6;obtain⟨y0,y1,y2,y3,y4,y5⟩:=Od hvals.b6;replace hvals:=Az hvals;go_wp2;exact(hQ.out _ (Below.refl _ _) _ rfl rfl hfin2.out.symm _ rfl).2
   ·rw[if_neg h16,if_neg hno1.1,if_neg hno1.2.1]at hfin2;replace hfin2:=Az hfin2;go_region
    go_upto_region 5 with fail
    go_cut [9] from 60 to 60 (fun v9 wx=>∃ G9,v9=.pointer (some ⟨G9,0,none⟩)∧W1.heap.size≤G9∧Ag (Below W1.heap.size W1 wx)∧Ag (wx.heap[G9]?=some (.cells #[.int .i64 op,.int .i64 d,.int .i64 s,.int .i64 tt,.int .i64 u,.int .i64 a,.int .u32 k,.int .i64 q] 114 (0,0))))
    case first =>
     have hS5:W1.drew.drew.cell? ⟨px,0,none⟩=some (.slice (some ⟨gc,0,none⟩) m capc)∧W1.drew.drew.cell? ⟨N7,8,none⟩=some (.int .i64 (p:Int))∧W1.drew.drew.cell? ⟨gc,p*8,none⟩=some (.int .i64 op)∧W1.drew.drew.cell? ⟨gc,p*8+1,none⟩=some (.int .i64 d)∧W1.drew.drew.cell? ⟨gc,p*8+2,none⟩=some (.int .i64 s)∧W1.drew.drew.cell? ⟨gc,p*8+3,none⟩=some (.int .i64 tt)∧W1.drew.drew.cell? ⟨gc,p*8+4,none⟩=some (.int .i64 u)∧W1.drew.drew.cell? ⟨gc,p*8+5,none⟩=some (.int .i64 a)∧W1.drew.drew.cell? ⟨gc,p*8+6,none⟩=some (.int .u32 k)∧W1.drew.drew.cell? ⟨gc,p*8+7,none⟩=some (.int .i64 q) :=
      ⟨l0,p8,i0,i1,i2,i3,i4,i5,i6,i7⟩
     refine Av [10] (S:=fun W=>W.cell? ⟨px,0,none⟩=some (.slice (some ⟨gc,0,none⟩) m capc)∧W.cell? ⟨N7,8,none⟩=some (.int .i64 (p:Int))∧W.cell? ⟨gc,p*8,none⟩=some (.int .i64 op)∧W.cell? ⟨gc,p*8+1,none⟩=some (.int .i64 d)∧W.cell? ⟨gc,p*8+2,none⟩=some (.int .i64 s)∧W.cell? ⟨gc,p*8+3,none⟩=some (.int .i64 tt)∧W.cell? ⟨gc,p*8+4,none⟩=some (.int .i64 u)∧W.cell? ⟨gc,p*8+5,none⟩=some (.int .i64 a)∧W.cell? ⟨gc,p*8+6,none⟩=some (.int .u32 k)∧W.cell? ⟨gc,p*8+7,none⟩=some (.int .i64 q)) (by kernel_rfl) hS5 (fun hS0=>?_);try simp only[Act.put,Sa,Sb,Sc]
     refine tY 0 (fun _=>hS0) ?_;refine tY 1 (fun _=>hS0) ?_;refine tY 2 (fun _=>hS0) ?_;refine tY 3 (fun _=>hS0) ?_;refine tL 4 hS0 ?_;refine tY 5 (fun _=>hS0) ?_;refine tL 6 hS0 ?_;refine tY 7 (fun _=>hS0) ?_;refine tL 8 hS0 ?_;refine Ab (rs:=[9]) (by kernel_rfl) (by simp) ?_;refine Aa.cons (Au rfl) (fun K hK=>?_) Aa.nil;rw[if_pos (by rfl)];go_wp2_with fail
     refine hK.out _ _ (fun _=>Tl (Bw _ _) hS0) (fun _=>?_);try simp only[Act.put,Sa,Sb,Sc]
     refine Ab (rs:=[10]) (by kernel_rfl) (by simp) ?_;refine Aa.cons (Au rfl) (fun K hK=>?_) Aa.nil;rw[if_pos (by rfl)];go_wp2_with fail
     refine hK.out _ _ (fun h=>by cases h) (fun _=>?_);try simp only[Act.put,Sa,Sb,Sc]
     refine Ax (by kernel_rfl) ?_ _;go_wp2;go_meet
     exact⟨_,rfl,Nl _,⟨Bd (Bd (Bw W1 _))⟩,⟨Be (Be (Bv W1 _))⟩⟩
    case rest =>
     obtain⟨G9,rfl,hG9,hBW2,b9⟩:=hcut;have hI2:=hI.out.keep hBW2.out;clear p8 l0 l3 l4 l6 i0 i1 i2 i3 i4 i5 i6 i7;obtain⟨W2,rfl⟩:∃ X,X=wc:=⟨_,rfl⟩
     obtain⟨hop1,hd1,hs1,ht1,hu1,hk1⟩:=hok1;simp only at hop1 hd1 hs1 ht1 hu1 hk1;obtain⟨d,rfl⟩:∃ y:Nat,d=y:=⟨d.toNat,by omega⟩
     obtain⟨s,rfl⟩:∃ y:Nat,s=y:=⟨s.toNat,by omega⟩
     obtain⟨tt,rfl⟩:∃ y:Nat,tt=y:=⟨tt.toNat,by omega⟩
     obtain⟨u,rfl⟩:∃ y:Nat,u=y:=⟨u.toNat,by omega⟩
     obtain⟨k,rfl⟩:∃ y:Nat,k=y:=⟨k.toNat,by omega⟩
     have s2:W2.cell? ⟨G9,2,none⟩=some (.int .i64 (s:Int)):=(Bc b9.out 2).trans rfl;have s3:W2.cell? ⟨G9,3,none⟩=some (.int .i64 (tt:Int)):=(Bc b9.out 3).trans rfl;have s4:W2.cell? ⟨G9,4,none⟩=some (.int .i64 (u:Int)):=(Bc b9.out 4).trans rfl;obtain⟨S,hS⟩:∃ S,(x.core t).r.getD s 0=S:=⟨_,rfl⟩
     obtain⟨T,hT⟩:∃ S,(x.core t).r.getD tt 0=S:=⟨_,rfl⟩
     obtain⟨U,hU⟩:∃ S,(x.core t).r.getD u 0=S:=⟨_,rfl⟩
     have S1:=hco.TQ s;have T1:=hco.TQ tt;have U1:=hco.TQ u;have cS:=(Bc hI2.b7 s).trans (Hd hco.len s (by omega));have cT:=(Bc hI2.b7 tt).trans (Hd hco.len tt (by omega));have cU:=(Bc hI2.b7 u).trans (Hd hco.len u (by omega));rw[hS]at S1 cS;rw[hT]at T1 cT;rw[hU]at U1 cU;have wS:IntKind.u32.wrap (S:Int)=S:=by rw[IntKind.wrap_u32];omega
     have wT:IntKind.u32.wrap (T:Int)=T:=by rw[IntKind.wrap_u32];omega
     have wU:IntKind.u32.wrap (U:Int)=U:=by rw[IntKind.wrap_u32];omega
     have s5:W2.cell? ⟨G9,5,none⟩=some (.int .i64 a):=(Bc b9.out 5).trans rfl;have b9op:W2.cell? ⟨G9,0,none⟩=some (.int .i64 op):=(Bc b9.out 0).trans rfl;obtain⟨z0,z1⟩:=hs1;obtain⟨z2,z3⟩:=ht1;obtain⟨z4,z5⟩:=hu1;have o22:(op==22)=false:=Bq hno1.1;have o23:(op==23)=false:=Bq hno1.2.1;replace hi:=Az hi;replace hI2:=Az hI2;replace hvals:=Az hvals;replace hd:=Az hd;replace hno1:=Az hno1;replace hm:=Az hm;replace hn:=Az hn;go_upto_region 6 with fail
     go_region
     clear cS cT cU s2 s3 s4;go_upto_region 17 with fail
     have c3:=hI2.out.e.Ut.2.2.2.1;go_cut [15] from 130 to 130 (fun v15 wx=>v15=.int .i64 (KC (Dc a (S%4096) 0 x.cells))∧Ag (Below W2.heap.size W2 wx))
     case first =>
      have hS17:Ag (II w W W2.drew.drew px (.slice (some ⟨gc,0,none⟩) m capc) vc vw (.slice (some ⟨g,0,none⟩) n cap) pl x (x.core t) W.heap.size N7 N8)∧W2.drew.drew.cell? ⟨px,3,none⟩=some vc∧W2.drew.drew.cell? ⟨G9,5,none⟩=some (.int .i64 a) :=
       ⟨⟨hI2.out.keep (Bd (Bd (Below.refl _ _)))⟩,c3,s5⟩
      refine Av [7] (S:=fun W'=>Ag (II w W W' px (.slice (some ⟨gc,0,none⟩) m capc) vc vw (.slice (some ⟨g,0,none⟩) n cap) pl x (x.core t) W.heap.size N7 N8)∧W'.cell? ⟨px,3,none⟩=some vc∧W'.cell? ⟨G9,5,none⟩=some (.int .i64 a)) (by kernel_rfl) hS17 (fun hS0=>?_);try simp only[Act.put,Sa,Sb,Sc]
      refine tY 0 (fun _=>hS0) ?_;refine tY 1 (fun _=>hS0) ?_;refine tY 2 (fun _=>hS0) ?_;refine tL 3 hS0 ?_;refine tY 4 (fun _=>hS0) ?_;refine tL 5 hS0 ?_;refine tY 6 (fun _=>hS0) ?_;refine Ab (rs:=[7]) (by kernel_rfl) (by simp) ?_;refine Aa.cons (Au rfl) (fun K hK=>?_) Aa.nil;rw[if_pos (by rfl)];go_wp2_with fail
      refine(Mz vc x.cells a S w.heap.size _ (U6 hS0) (by omega) S1).mono ?_;rintro e w3 ⟨rfl,hb3⟩;refine hK.out _ _ (fun h=>by cases h) (fun _=>?_);try simp only[Act.put,Sa,Sb,Sc]
      refine tY 8 (fun h=>by cases h) ?_;refine Ax (by kernel_rfl) ?_ _;go_wp2;go_meet
      exact⟨rfl,⟨Below.trans (Bd (Bd (Below.refl _ _))) hb3⟩⟩
     case rest =>
      obtain⟨rfl,hb3⟩:=hcut;obtain⟨W3,rfl⟩:∃ X,X=wc:=⟨_,rfl⟩
      have hI3:=hI2.out.keep hb3.out;have b93:=Bk hb3.out b9.out;have hget:(x.core t).get (s:Int)=S:=by rw[CoreM.get,Int.toNat_natCast];exact hS
      have hf:=hfin2.out;rw[hget]at hf;clear hfin2 hget c3 s5 b9op;cases hfm:Dc a (S%4096) 0 x.cells with
      |none =>
       rw[hfm]at hf;obtain⟨x0,x1,x2,x3,x4,x5⟩:=IU hI3.b8;obtain⟨q0,q1,q2,q3,q4,q5⟩:=IU hI3.b6;obtain⟨y0,y1,y2,y3,y4,y5⟩:=Od hI3.b6;replace hf:=Az hf.symm;replace hI3:=Az hI3;simp only[KC];go_wp2;exact(hQ.out _ (hBW2.out.trans (hb3.out.mono hBW2.out.size)) _ rfl rfl hf.out _ rfl).1
      |some aa =>
       obtain⟨_,haa⟩:=MR _ _ _ hfm;rw[hfm]at hf;simp only at hf;replace hf:=Az hf;rw[Nat.zero_add,←hwl]at haa;simp only[KC];have aa0:(0:Int)≤(aa:Int):=by omega
       have aan:¬(aa:Int)<0:=by omega
       obtain⟨acc,hbx⟩:=hI3.e.bx;have c7:W3.cell? ⟨px,7,none⟩=some (.int .i64 acc):=(Bc hbx 7).trans rfl;have f7:=Bf hbx 7;obtain⟨y7,hy7⟩:∃ y,IntKind.i64.wrap (acc+1)=y:=⟨_,rfl⟩
       obtain⟨W4,hW4⟩:∃ X,W3.setCell ⟨px,7,none⟩ (.int .i64 y7)=X:=⟨_,rfl⟩
       obtain⟨hI4,hsz4,far4⟩:=hI3.acc y7 W4 hW4.symm;have b94:=far4 _ _ _ b93 (by decide);obtain⟨gw,cw,hvw,_,hgw,_,hwc⟩:=Cw hI4.e.words (by omega);subst hvw;obtain⟨nw,hnw⟩:∃ y,x.words.length=y:=⟨_,rfl⟩
       have aa1:(aa:Int)<(nw:Int):=by omega
       have c4:=hI4.e.Ut.2.2.2.2.1;rw[hnw]at c4;obtain⟨was,hwas9⟩:∃ y,x.words.getD aa 0=y:=⟨_,rfl⟩
       have cw0:W4.cell? ⟨gw,aa,none⟩=some (.int .u32 (was:Int)):=hwc aa _ (by rw[←hwas9];simp[List.getD_eq_getElem?_getD,List.getElem?_eq_getElem haa]);have hwas:was<4294967296:=by
        rw[←hwas9];refine hI4.e.Sl _ ?_;rw[List.getD_eq_getElem?_getD,List.getElem?_eq_getElem haa];exact List.getElem_mem _
       have hI5:=hI4.keep (Bw W4 (.cells #[.slice none 0 0,.int .i64 0,.int .i64 (aa:Int),.int .i64 0,.int .i64 0,.int .i64 0] 135));have b95:=AZ b94 (.cells #[.slice none 0 0,.int .i64 0,.int .i64 (aa:Int),.int .i64 0,.int .i64 0,.int .i64 0] 135);have b17:=Bv W4 (.cells #[.slice none 0 0,.int .i64 0,.int .i64 (aa:Int),.int .i64 0,.int .i64 0,.int .i64 0] 135);have p85:=(Bc hI5.b7 8).trans (Ih hco.len);rw[hp]at p85;have hpw:IntKind.i64.wrap ((p:Int)+1)=(p:Int)+1:=by rw[IntKind.wrap_i64];omega
       have hG6:=Bl hI4.b6;have hG8:=Bl hI4.b8;have hWb4:=Nat.le_trans hI4.f.size (Nl W4.heap.size);clear hbx hwc;replace hI3:=Az hI3;replace hI4:=Az hI4;replace hI5:=Az hI5;replace b95:=Az b95;replace b17:=Az b17;replace far4:=Az far4;go_upto_region 23 with fail
       go_cut [18] from 157 to 157 (fun v18 wx=>v18=.int .i64 ((p:Int)+1)∧wx=W4.alloc (.cells #[.slice none 0 0,.int .i64 0,.int .i64 (aa:Int),.int .i64 0,.int .i64 0,.int .i64 0] 135))
       case first =>
        go_wp2_with fail
        go_meet
        exact⟨rfl,rfl⟩
       case rest =>
        obtain⟨rfl,rfl⟩:=hcut;go_step
        have hfin9:EU x t aa (GA ⟨op,d,s,tt,u,a,k,q⟩ (x.core t) was (decide (late≠0)))=fin:=by rw[←hwas9];exact hf.out
        rw[←hsz4];exact Tg (S:=S) (M:=M) (hI:=hI5.out) (hNW:=hNW) (b9:=b95.out) (b17:=b17.out) (hG17:=hWb4) (h617:=by omega) (h817:=by omega) (hop:=by have:=hno1.out;omega) (hd:=by omega) (hp:=hp) (hT:=by rw[CoreM.get,Int.toNat_natCast];exact hT) (hU:=by rw[CoreM.get,Int.toNat_natCast];exact hU)
         (hT1:=T1) (hU1:=U1) (hk1:=by omega) (hwas:=hwas9) (hwas1:=hwas) (haa:=haa) (hnw:=rfl) (ht:=ht) (hn:=hn.out) (ht2:=ht2) (haa2:=by omega) (hok:=hok) (hlen:=hlen) (hfin:=hfin9)
def FO:List TypeId:=[155,45,94,90,97]
def TP(w W:World)(pr px:Nat)(vl vc vw vr:Value)(pl:Option Addr)(vd:Value)(r:AH)(e:Ending)(W':World):Prop :=
 e=.returned (.tuple #[])∧∃ ve',C5 w W' pr px vl vc vw vr pl vd ve' r∧BX w.heap.size FO (Jn vd) W W'
structure Kp (r:AH):Prop where
 n:r.x.AG.length=r.act.length
 Qv:r.act.length≤64
 n1:0<r.act.length
 code:∀ i∈r.x.pg.l,GQ i
 len:r.x.pg.l.length≤64
 cells:r.x.cells.length≤10000
 words:r.x.words.length=r.x.cells.length
 no:∀ i∈r.x.pg.l,i.op≠22∧i.op≠23∧i.op≤23
 marks:Kq r.x.pg.l
 l:r.l.length≤80000000
theorem Df(w W:World)(pr px:Nat)(vl vc vw vr:Value)(pl:Option Addr)(vd ve:Value)(r:AH)(kind t late:Int)(h:C5 w W pr px vl vc vw vr pl vd ve r)(hok:Kp r) :
  Calls Tryz.prog 41 #[.pointer (some ⟨pr,0,none⟩),.agg #[.int .i64 kind,.int .i64 t,.int .i64 late]] W (TP w W pr px vl vc vw vr pl vd (r.op kind t late)):=by
 obtain⟨fin,hfin⟩:∃ x,r.op kind t late=x:=⟨_,rfl⟩
 rw[hfin];have hact:=h.act;unfold BL at hact;obtain⟨gd,cd,hvd,_,hgd,⟨cs,hcs,_⟩,hcell⟩:=Cw hact hok.n1;subst hvd;obtain⟨W1,hW1⟩:∃ X,W.alloc (.cells #[.int .i64 kind,.int .i64 t,.int .i64 late] 85)=X:=⟨_,rfl⟩
 have hb1:Below W.heap.size W W1:=by rw[←hW1];exact Bw W _
 have b3:W1.heap[W.heap.size]?=some (.cells #[.int .i64 kind,.int .i64 t,.int .i64 late] 85 (0,0)):=by rw[←hW1];exact Bv W _
 have hR1:=h.keep hb1;have q0:W1.cell? ⟨W.heap.size,0,none⟩=some (.int .i64 kind):=(Bc b3 0).trans rfl;have q1:W1.cell? ⟨W.heap.size,1,none⟩=some (.int .i64 t):=(Bc b3 1).trans rfl;have q2:W1.cell? ⟨W.heap.size,2,none⟩=some (.int .i64 late):=(Bc b3 2).trans rfl;obtain⟨nd,hnd⟩:∃ y,r.act.length=y:=⟨_,rfl⟩
 rw[hnd];have c1:W1.cell? ⟨pr,1,none⟩=some (.slice (some ⟨gd,0,none⟩) nd cd):=by rw[←hnd];exact(Bc hR1.br 1).trans rfl
 have c3:W1.cell? ⟨pr,3,none⟩=some (.int .i64 (Qw r.bad)):=(Bc hR1.br 3).trans rfl;have FW:BX w.heap.size FO (fun _=>False) W W1:=BX.Cj hb1;have hdone:∀ W2,Below W1.heap.size W1 W2→fin=r→TP w W pr px vl vc vw vr pl (.slice (some ⟨gd,0,none⟩) nd cd) fin (.returned (.tuple #[])) W2:=by
  rintro W2 hb rfl;rw[←hnd];exact⟨rfl,ve,hR1.keep hb,(FW.then hb).DJ⟩
 have hgn:¬Jn (.slice (some ⟨gd,0,none⟩) nd cd) W.heap.size:=fun e=>by
  have h1:=Bl hcs;have h2:gd=W.heap.size:=by injection e
  omega
 replace hgn:=Az hgn;replace hfin:=Az hfin;replace hR1:=Az hR1;replace FW:=Az FW;replace b3:=Az b3;replace h:=Az h;replace hdone:=Az hdone;replace hnd:=Az hnd;go_enter Tryz.func41,Tryz.ntmps41;go_wp2_with fail
 try rw[hW1]
 clear hW1;by_cases ht0:t<0
 ·have hf:fin=r:=by rw[←hfin.out,AH.op];exact if_pos (.inl ht0)
  replace hf:=Az hf;clear hfin;go_region
  go_wp2;exact bodyPost_ret (fn:=Tryz.f41) (v:=.tuple #[]) (results_none rfl _ _ _) rfl (hdone.out _ (Bd (Below.refl _ _)) hf.out)
 ·by_cases htn:t≥r.act.length
  ·have hf:fin=r:=by rw[←hfin.out,AH.op];exact if_pos (.inr (.inl htn))
   replace hf:=Az hf;rw[hnd.out]at htn;have htn':(nd:Int)≤t:=htn;clear hfin;go_region
   go_wp2;exact bodyPost_ret (fn:=Tryz.f41) (v:=.tuple #[]) (results_none rfl _ _ _) rfl (hdone.out _ (Bd (Below.refl _ _)) hf.out)
  ·obtain⟨tn,rfl⟩:∃ y:Nat,t=y:=⟨t.toNat,by omega⟩
   have htl:tn<r.act.length:=by omega
   have hnd':=hnd.out;have t1:(tn:Int)<(nd:Int):=by omega
   have t3:¬nd≤tn:=by omega
   clear hnd';have t2:(0:Int)≤(tn:Int):=by omega
   obtain⟨av,hav⟩:∃ y,r.act.getD tn 0=y:=⟨_,rfl⟩
   have ca:W1.cell? ⟨gd,tn,none⟩=some (.int .i64 (av:Int)):=(Ck hb1 (hcell tn _ (by rw[←hav];simp[List.getD_eq_getElem?_getD,List.getElem?_eq_getElem htl])))
   clear hcell;by_cases hbad:r.bad=true
   ·have hf:fin=r:=by rw[←hfin.out,AH.op];exact if_pos (.inr (.inr hbad))
    replace hf:=Az hf;have c3':W1.cell? ⟨pr,3,none⟩=some (.int .i64 1):=by rw[c3,hbad];rfl
    clear hfin c3;go_region
    go_wp2;exact bodyPost_ret (fn:=Tryz.f41) (v:=.tuple #[]) (results_none rfl _ _ _) rfl (hdone.out _ (Bd (Below.refl _ _)) hf.out)
   ·have hbf:r.bad=false:=by simpa using hbad
    have c3':W1.cell? ⟨pr,3,none⟩=some (.int .i64 0):=by rw[c3,hbf];rfl
    have hf:=hfin.out;unfold AH.op at hf;rw[if_neg (by rw[hbf];simp;omega)]at hf;simp only[Int.toNat_natCast,hav]at hf;clear hfin c3 hbad hbf;go_region
    by_cases k1:kind=1
    ·subst k1;by_cases a0:av=0
     ·rw[if_pos ⟨rfl,a0⟩]at hf;have ca':W1.cell? ⟨gd,tn,none⟩=some (.int .i64 0):=by rw[ca,a0];rfl
      clear ca a0;have ca:=ca';clear ca';go_upto_region 2 with fail
      go_region
      replace hf:=Az hf;have fa:=Bf (Bk hb1 hcs) tn;have hS3:W1.drew.drew.drew.cell? ⟨pr,1,none⟩=some (.slice (some ⟨gd,0,none⟩) nd cd)∧W1.drew.drew.drew.cell? ⟨W.heap.size,1,none⟩=some (.int .i64 (tn:Int)):=⟨c1,q1⟩
      go_upto_region 3 with fail
      refine Av [7] (S:=fun W'=>W'.cell? ⟨pr,1,none⟩=some (.slice (some ⟨gd,0,none⟩) nd cd)∧W'.cell? ⟨W.heap.size,1,none⟩=some (.int .i64 (tn:Int))) (by kernel_rfl) hS3 (fun hS0=>?_);try simp only[Act.put,Sa,Sb,Sc]
      refine tY 0 (fun _=>hS0) ?_;refine tY 1 (fun _=>hS0) ?_;refine tY 2 (fun _=>hS0) ?_;refine tL 3 (hS0) ?_;refine tY 4 (fun _=>hS0) ?_;refine tL 5 (hS0) ?_;refine tY 6 (fun _=>hS0) ?_;refine Ab (rs:=[7]) (by kernel_rfl) (by simp) ?_;refine Aa.cons (Au rfl) (fun K hK=>?_) Aa.nil;rw[if_pos (by rfl)];go_wp2_with fail
      refine hK.out _ _ (fun h=>by cases h) (fun _=>?_);clear hK hS0 hS3;try simp only[Act.put,Sa,Sb,Sc]
      refine Ax (by kernel_rfl) ?_ _;obtain⟨WS,hWS⟩:∃ X,W1.setCell ⟨gd,tn,none⟩ (.int .i64 1)=X:=⟨_,rfl⟩
      try rw[hWS]
      obtain⟨hRs,hFs,hFsM⟩:=hR1.out.Ie (v:=1) htl WS hWS.symm;have b3s:=Be (Be (Be (hFs.FP b3.out (by decide) (fun f=>f))));have q1s:WS.cell? ⟨W.heap.size,1,none⟩=some (.int .i64 (tn:Int)):=(Bc (hFs.FP b3.out (by decide) (fun f=>f)) 1).trans rfl;have hol:=hok.l;have hC:=E9 w WS.drew.drew.drew pr px vl vc vw vr pl _ _ _ 1 tn (hRs.keep (Bd (Bd (Bd (Below.refl _ _))))) (by dsimp only;omega);have FS:BX w.heap.size FO (Jn (.slice (some ⟨gd,0,none⟩) nd cd)) W WS.drew.drew.drew:=(FW.out.DJ.trans (hFsM.mono (by simp))).drew.drew.drew;replace hC:=Az hC;replace FS:=Az FS;replace b3s:=Az b3s;clear hRs hFs hFsM hWS hol c1 q1 q0 q2 c3' ca fa;go_wp2_with fail
      refine hC.out.mono ?_;rintro e w2 ⟨rfl,ve2,hR2,hF2⟩;have b32:=hF2.FP b3s.out (by decide) (fun f=>f);replace hF2:=FS.out.trans (BX.DJ (hF2.mono (Ts':=FO) (by simp[FO])));clear hC FS b3s;replace hR2:=Az (hR2.keep (Bd (Below.refl _ _)));replace hF2:=Az hF2.drew;replace b32:=Az (Be b32);go_upto_region 5 with fail
      have hS5:(fun W'=>W'.cell? ⟨W.heap.size,1,none⟩=some (.int .i64 (tn:Int))∧W'.cell? ⟨pr,0,none⟩=some (.pointer (some ⟨px,0,none⟩))) w2.drew:=⟨(Bc b32.out 1).trans rfl,(Bc hR2.out.br 0).trans rfl⟩
      refine Av [] (S:=fun W'=>W'.cell? ⟨W.heap.size,1,none⟩=some (.int .i64 (tn:Int))∧W'.cell? ⟨pr,0,none⟩=some (.pointer (some ⟨px,0,none⟩))) (by kernel_rfl) hS5 (fun hS0=>?_);try simp only[Act.put,Sa,Sb,Sc]
      refine tY 0 (fun _=>hS0) ?_;refine tY 1 (fun _=>hS0) ?_;refine tL 2 (hS0) ?_;refine tY 3 (fun _=>hS0) ?_;refine tY 4 (fun _=>hS0) ?_;refine tY 5 (fun _=>hS0) ?_;refine tL 6 (hS0) ?_;refine tY 7 (fun _=>hS0) ?_;refine tL 8 (hS0) ?_;refine Ab (rs:=[9]) (by kernel_rfl) (by simp) ?_;refine Aa.cons (Au rfl) (fun K hK=>?_) Aa.nil;rw[if_pos (by rfl)];go_wp2_with fail
      refine(Hp w _ px vl vc vw vr pl (fun _=>False) r.x tn false hR2.out.x (by rw[hok.n];exact htl) (by rw[hok.n];exact hok.Qv) hok.code hok.len).mono ?_;rintro e w3 ⟨vm,rfl,hm,hE3,hF3⟩;have hR3:=hR2.out.exec hE3 hF3;have b33:=hF3.FP b32.out (by decide) (fun f=>f);refine hK.out _ _ (fun _=>⟨(Bc b33 1).trans rfl,(Bc hR3.br 0).trans rfl⟩) (fun _=>?_);clear hK;try simp only[Act.put,Sa,Sb,Sc]
      refine Ab (rs:=[10]) (by kernel_rfl) (by simp) ?_;refine Aa.cons (Au rfl) (fun K hK=>?_) Aa.nil;rw[if_pos (by rfl)];have hmk:=EA r.x tn false hok.marks;have hol:=hok.l;have hon:=hok.Qv;have hC:=Fi w w3 pr px vl vc vw vr pl _ _ vm _ tn (r.x.begin tn false).2 hR3 (by simpa using htl) (by simpa using hon) hm hmk.1 hmk.2 (by have:=hmk.2;simp only[List.length_append,List.length_singleton];omega);replace hR3:=Az hR3;replace hC:=Az hC;replace hF3:=Az hF3;clear hm hE3 hmk hol hon;go_wp2_with fail
      refine hC.out.mono ?_;rintro e w4 ⟨rfl,ve4,hR4,hF4⟩;refine hK.out _ _ (fun _=>⟨(Bc (hF4.FP b33 (by decide) hgn.out) 1).trans rfl,(Bc hR4.br 0).trans rfl⟩) (fun _=>?_);clear hK;try simp only[Act.put,Sa,Sb,Sc]
      refine Ax (by kernel_rfl) ?_ _;replace hR4:=Az hR4;replace hF4:=Az hF4;go_wp2;refine bodyPost_end (fn:=Tryz.f41) (v:=.tuple #[]) (results_none rfl _ _ _) rfl ⟨rfl,ve4,?_,(hF2.out.trans (BX.DJ (hF3.out.mono (by simp[FO,Ia])))).trans (hF4.out.mono (by simp[FO,GR]))⟩;rw[←hf.out,←hnd.out];exact hR4.out
     ·rw[if_neg (fun h=>a0 h.2),if_neg (fun h=>by cases h.1),if_neg (fun h=>h.1 rfl)]at hf;have x0:((av:Int)==0)=false:=Bq (by omega);replace hf:=Az hf;go_upto_region 2 with fail
      go_region
      go_upto_region 6 with fail
      go_region
      go_upto_region 10 with fail
      go_region
      go_wp2;exact bodyPost_end (fn:=Tryz.f41) (v:=.tuple #[]) (results_none rfl _ _ _) rfl (hdone.out _ (Bd (Bd (Bd (Bd (Below.refl _ _))))) hf.out.symm)
    ·rw[if_neg (fun h=>k1 h.1)]at hf;have y1:(kind==1)=false:=Bq k1;have z1:(kind != 1)=true:=bne_iff_ne.2 k1;by_cases k2:kind=2
     ·subst k2;by_cases a2:av=2
      ·rw[if_pos ⟨rfl,a2⟩]at hf;have ca':W1.cell? ⟨gd,tn,none⟩=some (.int .i64 2):=by rw[ca,a2];rfl
       clear ca a2 y1 z1 k1;have ca:=ca';clear ca';go_upto_region 2 with fail
       go_region
       go_upto_region 6 with fail
       go_region
       replace hf:=Az hf;have fa:=Bf (Bk hb1 hcs) tn;have hS3:W1.drew.drew.drew.drew.cell? ⟨pr,1,none⟩=some (.slice (some ⟨gd,0,none⟩) nd cd)∧W1.drew.drew.drew.drew.cell? ⟨W.heap.size,1,none⟩=some (.int .i64 (tn:Int)):=⟨c1,q1⟩
       go_upto_region 7 with fail
       refine Av [7] (S:=fun W'=>W'.cell? ⟨pr,1,none⟩=some (.slice (some ⟨gd,0,none⟩) nd cd)∧W'.cell? ⟨W.heap.size,1,none⟩=some (.int .i64 (tn:Int))) (by kernel_rfl) hS3 (fun hS0=>?_);try simp only[Act.put,Sa,Sb,Sc]
       refine tY 0 (fun _=>hS0) ?_;refine tY 1 (fun _=>hS0) ?_;refine tY 2 (fun _=>hS0) ?_;refine tL 3 (hS0) ?_;refine tY 4 (fun _=>hS0) ?_;refine tL 5 (hS0) ?_;refine tY 6 (fun _=>hS0) ?_;refine Ab (rs:=[7]) (by kernel_rfl) (by simp) ?_;refine Aa.cons (Au rfl) (fun K hK=>?_) Aa.nil;rw[if_pos (by rfl)];go_wp2_with fail
       refine hK.out _ _ (fun h=>by cases h) (fun _=>?_);clear hK hS0 hS3;try simp only[Act.put,Sa,Sb,Sc]
       refine Ax (by kernel_rfl) ?_ _;obtain⟨WS,hWS⟩:∃ X,W1.setCell ⟨gd,tn,none⟩ (.int .i64 3)=X:=⟨_,rfl⟩
       try rw[hWS]
       obtain⟨hRs,hFs,hFsM⟩:=hR1.out.Ie (v:=3) htl WS hWS.symm;have b3s:=Be (Be (Be (Be (hFs.FP b3.out (by decide) (fun f=>f)))));have q1s:WS.cell? ⟨W.heap.size,1,none⟩=some (.int .i64 (tn:Int)):=(Bc (hFs.FP b3.out (by decide) (fun f=>f)) 1).trans rfl;have hol:=hok.l;have hC:=E9 w WS.drew.drew.drew.drew pr px vl vc vw vr pl _ _ _ 8 tn (hRs.keep (Bd (Bd (Bd (Bd (Below.refl _ _)))))) (by dsimp only;omega);have FS:BX w.heap.size FO (Jn (.slice (some ⟨gd,0,none⟩) nd cd)) W WS.drew.drew.drew.drew:=(FW.out.DJ.trans (hFsM.mono (by simp))).drew.drew.drew.drew;replace hC:=Az hC;replace FS:=Az FS;replace b3s:=Az b3s;clear hRs hFs hFsM hWS hol c1 q1 q0 q2 c3' ca fa;go_wp2_with fail
       refine hC.out.mono ?_;rintro e w2 ⟨rfl,ve2,hR2,hF2⟩;have b32:=hF2.FP b3s.out (by decide) (fun f=>f);replace hF2:=FS.out.trans (BX.DJ (hF2.mono (Ts':=FO) (by simp[FO])));clear hC FS b3s;replace hR2:=Az (hR2.keep (Bd (Below.refl _ _)));replace hF2:=Az hF2.drew;replace b32:=Az (Be b32);go_upto_region 9 with fail
       have hS5:(fun W'=>W'.cell? ⟨W.heap.size,1,none⟩=some (.int .i64 (tn:Int))∧W'.cell? ⟨pr,0,none⟩=some (.pointer (some ⟨px,0,none⟩))) w2.drew:=⟨(Bc b32.out 1).trans rfl,(Bc hR2.out.br 0).trans rfl⟩
       refine Av [] (S:=fun W'=>W'.cell? ⟨W.heap.size,1,none⟩=some (.int .i64 (tn:Int))∧W'.cell? ⟨pr,0,none⟩=some (.pointer (some ⟨px,0,none⟩))) (by kernel_rfl) hS5 (fun hS0=>?_);try simp only[Act.put,Sa,Sb,Sc]
       refine tY 0 (fun _=>hS0) ?_;refine tY 1 (fun _=>hS0) ?_;refine tL 2 (hS0) ?_;refine tY 3 (fun _=>hS0) ?_;refine tY 4 (fun _=>hS0) ?_;refine tY 5 (fun _=>hS0) ?_;refine tL 6 (hS0) ?_;refine tY 7 (fun _=>hS0) ?_;refine tL 8 (hS0) ?_;refine Ab (rs:=[9]) (by kernel_rfl) (by simp) ?_;refine Aa.cons (Au rfl) (fun K hK=>?_) Aa.nil;rw[if_pos (by rfl)];go_wp2_with fail
       refine(Hp w _ px vl vc vw vr pl (fun _=>False) r.x tn true hR2.out.x (by rw[hok.n];exact htl) (by rw[hok.n];exact hok.Qv) hok.code hok.len).mono ?_;rintro e w3 ⟨vm,rfl,hm,hE3,hF3⟩;have hR3:=hR2.out.exec hE3 hF3;have b33:=hF3.FP b32.out (by decide) (fun f=>f);refine hK.out _ _ (fun _=>⟨(Bc b33 1).trans rfl,(Bc hR3.br 0).trans rfl⟩) (fun _=>?_);clear hK;try simp only[Act.put,Sa,Sb,Sc]
       refine Ab (rs:=[10]) (by kernel_rfl) (by simp) ?_;refine Aa.cons (Au rfl) (fun K hK=>?_) Aa.nil;rw[if_pos (by rfl)];have hmk:=EA r.x tn true hok.marks;have hol:=hok.l;have hon:=hok.Qv;have hC:=Fi w w3 pr px vl vc vw vr pl _ _ vm _ tn (r.x.begin tn true).2 hR3 (by simpa using htl) (by simpa using hon) hm hmk.1 hmk.2 (by have:=hmk.2;simp only[List.length_append,List.length_singleton];omega);replace hR3:=Az hR3;replace hC:=Az hC;replace hF3:=Az hF3;clear hm hE3 hmk hol hon;go_wp2_with fail
       refine hC.out.mono ?_;rintro e w4 ⟨rfl,ve4,hR4,hF4⟩;refine hK.out _ _ (fun _=>⟨(Bc (hF4.FP b33 (by decide) hgn.out) 1).trans rfl,(Bc hR4.br 0).trans rfl⟩) (fun _=>?_);clear hK;try simp only[Act.put,Sa,Sb,Sc]
       refine Ax (by kernel_rfl) ?_ _;replace hR4:=Az hR4;replace hF4:=Az hF4;go_wp2;refine bodyPost_end (fn:=Tryz.f41) (v:=.tuple #[]) (results_none rfl _ _ _) rfl ⟨rfl,ve4,?_,(hF2.out.trans (BX.DJ (hF3.out.mono (by simp[FO,Ia])))).trans (hF4.out.mono (by simp[FO,GR]))⟩;rw[←hf.out,←hnd.out];exact hR4.out
      ·rw[if_neg (fun h=>a2 h.2),if_neg (fun h=>h.2.1 rfl)]at hf;have x0:((av:Int)==2)=false:=Bq (by omega);clear y1 z1 k1;replace hf:=Az hf;go_upto_region 2 with fail
       go_region
       go_upto_region 6 with fail
       go_region
       go_upto_region 10 with fail
       go_region
       go_wp2;exact bodyPost_end (fn:=Tryz.f41) (v:=.tuple #[]) (results_none rfl _ _ _) rfl (hdone.out _ (Bd (Bd (Bd (Bd (Below.refl _ _))))) hf.out.symm)
     ·rw[if_neg (fun h=>k2 h.1)]at hf;have y2:(kind==2)=false:=Bq k2;have z2:(kind != 2)=true:=bne_iff_ne.2 k2;by_cases a1:av=1∨av=3
      ·rw[if_pos ⟨k1,k2,a1⟩]at hf;replace hf:=Az hf;obtain⟨b1,x1,x3⟩:∃ b:Bool,((av:Int)==1)=b∧(b=false→((av:Int)==3)=true):=by
        rcases a1 with rfl |rfl
        ·exact⟨true,rfl,fun h=>by cases h⟩
        ·exact⟨false,rfl,fun _=>rfl⟩
       clear k1 k2 a1;go_upto_region 2 with fail
       go_region
       go_upto_region 6 with fail
       go_region
       have hR2:=hR1.out.keep (Bd (Bd (Bd (Bd (Below.refl _ _)))));have hF2:BX w.heap.size FO (Jn (.slice (some ⟨gd,0,none⟩) nd cd)) W _:=BX.DJ (FW.out.drew.drew.drew.drew);have b32:=Be (Be (Be (Be (b3.out))));cases b1 with
       |true =>
        clear x3;go_upto_region 10 with fail
        go_region
        have hX:=fun(W1:World) (hE:CS w W1 px vl vc vw vr pl r.x)=>I4 w W1 px vl vc vw vr pl (fun _=>False) r.x tn late hE (by rw[hok.n];exact htl) (by rw[hok.n];exact hok.Qv) hok.code hok.len hok.cells hok.words hok.no
        have hmk0:=GS r.x tn (decide (late≠0)) hok.marks;replace hf:=hf.out;obtain⟨so,hso⟩:∃ y,r.x.step tn (decide (late≠0))=y:=⟨_,rfl⟩
        rw[hso]at hf hmk0;simp only[hso]at hX;replace hX:=Az hX;replace hmk0:=Az hmk0;replace hf:=Az hf;clear hso;replace hR2:=Az (hR2.keep (Bd (Below.refl _ _)));replace hF2:=Az hF2.drew;replace b32:=Az (Be b32);go_upto_region 11 with fail
        have hS5:(fun W'=>W'.cell? ⟨W.heap.size,1,none⟩=some (.int .i64 (tn:Int))∧W'.cell? ⟨W.heap.size,2,none⟩=some (.int .i64 late)∧W'.cell? ⟨pr,0,none⟩=some (.pointer (some ⟨px,0,none⟩))) W1.drew.drew.drew.drew.drew:=⟨(Bc b32.out 1).trans rfl,(Bc b32.out 2).trans rfl,(Bc hR2.out.br 0).trans rfl⟩
        refine Av [] (S:=fun W'=>W'.cell? ⟨W.heap.size,1,none⟩=some (.int .i64 (tn:Int))∧W'.cell? ⟨W.heap.size,2,none⟩=some (.int .i64 late)∧W'.cell? ⟨pr,0,none⟩=some (.pointer (some ⟨px,0,none⟩))) (by kernel_rfl) hS5 (fun hS0=>?_);try simp only[Act.put,Sa,Sb,Sc]
        refine tY 0 (fun _=>hS0) ?_;refine tY 1 (fun _=>hS0) ?_;refine tL 2 (hS0) ?_;refine tY 3 (fun _=>hS0) ?_;refine tY 4 (fun _=>hS0) ?_;refine tY 5 (fun _=>hS0) ?_;refine tL 6 (hS0) ?_;refine tY 7 (fun _=>hS0) ?_;refine tL 8 (hS0) ?_;refine tY 9 (fun _=>hS0) ?_;refine tL 10 (hS0) ?_;refine Ab (rs:=[11]) (by kernel_rfl) (by simp) ?_;refine Aa.cons (Au rfl) (fun K hK=>?_) Aa.nil;rw[if_pos (by rfl)];go_wp2_with fail
        refine(hX.out _ hR2.out.x).mono ?_;rintro e w3 ⟨vm,rfl,hm,hE3,hF3⟩;have hR3:=hR2.out.exec hE3 hF3;have b33:=hF3.FP b32.out (by decide) (fun f=>f);refine hK.out _ _ (fun _=>⟨(Bc b33 1).trans rfl,(Bc b33 2).trans rfl,(Bc hR3.br 0).trans rfl⟩) (fun _=>?_);clear hK;try simp only[Act.put,Sa,Sb,Sc]
        refine Ab (rs:=[12]) (by kernel_rfl) (by simp) ?_;refine Aa.cons (Au rfl) (fun K hK=>?_) Aa.nil;rw[if_pos (by rfl)];have hmk:=hmk0.out;have hol:=hok.l;have hon:=hok.Qv;have hC:=Fi w w3 pr px vl vc vw vr pl _ _ vm _ tn so.2 hR3 (by simpa using htl) (by simpa using hon) hm hmk.1 hmk.2 (by have:=hmk.2;dsimp only;omega);replace hR3:=Az hR3;replace hC:=Az hC;replace hF3:=Az hF3;clear hm hE3 hmk hol hon;go_wp2_with fail
        refine hC.out.mono ?_;rintro e w4 ⟨rfl,ve4,hR4,hF4⟩;refine hK.out _ _ (fun _=>⟨(Bc (hF4.FP b33 (by decide) hgn.out) 1).trans rfl,(Bc (hF4.FP b33 (by decide) hgn.out) 2).trans rfl,(Bc hR4.br 0).trans rfl⟩) (fun _=>?_);clear hK;try simp only[Act.put,Sa,Sb,Sc]
        refine Ax (by kernel_rfl) ?_ _;replace hR4:=Az hR4;replace hF4:=Az hF4;go_wp2;refine bodyPost_end (fn:=Tryz.f41) (v:=.tuple #[]) (results_none rfl _ _ _) rfl ⟨rfl,ve4,?_,(hF2.out.trans (BX.DJ (hF3.out.mono (by simp[FO,Ia])))).trans (hF4.out.mono (by simp[FO,GR]))⟩;rw[←hf.out,←hnd.out];exact hR4.out
       |false =>
        replace x3:=x3 rfl;go_upto_region 10 with fail
        go_region
        have hX:=fun(W1:World) (hE:CS w W1 px vl vc vw vr pl r.x)=>I4 w W1 px vl vc vw vr pl (fun _=>False) r.x tn late hE (by rw[hok.n];exact htl) (by rw[hok.n];exact hok.Qv) hok.code hok.len hok.cells hok.words hok.no
        have hmk0:=GS r.x tn (decide (late≠0)) hok.marks;replace hf:=hf.out;obtain⟨so,hso⟩:∃ y,r.x.step tn (decide (late≠0))=y:=⟨_,rfl⟩
        rw[hso]at hf hmk0;simp only[hso]at hX;replace hX:=Az hX;replace hmk0:=Az hmk0;replace hf:=Az hf;clear hso;replace hR2:=Az (hR2.keep (Bd (Below.refl _ _)));replace hF2:=Az hF2.drew;replace b32:=Az (Be b32);go_upto_region 11 with fail
        have hS5:(fun W'=>W'.cell? ⟨W.heap.size,1,none⟩=some (.int .i64 (tn:Int))∧W'.cell? ⟨W.heap.size,2,none⟩=some (.int .i64 late)∧W'.cell? ⟨pr,0,none⟩=some (.pointer (some ⟨px,0,none⟩))) W1.drew.drew.drew.drew.drew:=⟨(Bc b32.out 1).trans rfl,(Bc b32.out 2).trans rfl,(Bc hR2.out.br 0).trans rfl⟩
        refine Av [] (S:=fun W'=>W'.cell? ⟨W.heap.size,1,none⟩=some (.int .i64 (tn:Int))∧W'.cell? ⟨W.heap.size,2,none⟩=some (.int .i64 late)∧W'.cell? ⟨pr,0,none⟩=some (.pointer (some ⟨px,0,none⟩))) (by kernel_rfl) hS5 (fun hS0=>?_);try simp only[Act.put,Sa,Sb,Sc]
        refine tY 0 (fun _=>hS0) ?_;refine tY 1 (fun _=>hS0) ?_;refine tL 2 (hS0) ?_;refine tY 3 (fun _=>hS0) ?_;refine tY 4 (fun _=>hS0) ?_;refine tY 5 (fun _=>hS0) ?_;refine tL 6 (hS0) ?_;refine tY 7 (fun _=>hS0) ?_;refine tL 8 (hS0) ?_;refine tY 9 (fun _=>hS0) ?_;refine tL 10 (hS0) ?_;refine Ab (rs:=[11]) (by kernel_rfl) (by simp) ?_;refine Aa.cons (Au rfl) (fun K hK=>?_) Aa.nil;rw[if_pos (by rfl)];go_wp2_with fail
        refine(hX.out _ hR2.out.x).mono ?_;rintro e w3 ⟨vm,rfl,hm,hE3,hF3⟩;have hR3:=hR2.out.exec hE3 hF3;have b33:=hF3.FP b32.out (by decide) (fun f=>f);refine hK.out _ _ (fun _=>⟨(Bc b33 1).trans rfl,(Bc b33 2).trans rfl,(Bc hR3.br 0).trans rfl⟩) (fun _=>?_);clear hK;try simp only[Act.put,Sa,Sb,Sc]
        refine Ab (rs:=[12]) (by kernel_rfl) (by simp) ?_;refine Aa.cons (Au rfl) (fun K hK=>?_) Aa.nil;rw[if_pos (by rfl)];have hmk:=hmk0.out;have hol:=hok.l;have hon:=hok.Qv;have hC:=Fi w w3 pr px vl vc vw vr pl _ _ vm _ tn so.2 hR3 (by simpa using htl) (by simpa using hon) hm hmk.1 hmk.2 (by have:=hmk.2;dsimp only;omega);replace hR3:=Az hR3;replace hC:=Az hC;replace hF3:=Az hF3;clear hm hE3 hmk hol hon;go_wp2_with fail
        refine hC.out.mono ?_;rintro e w4 ⟨rfl,ve4,hR4,hF4⟩;refine hK.out _ _ (fun _=>⟨(Bc (hF4.FP b33 (by decide) hgn.out) 1).trans rfl,(Bc (hF4.FP b33 (by decide) hgn.out) 2).trans rfl,(Bc hR4.br 0).trans rfl⟩) (fun _=>?_);clear hK;try simp only[Act.put,Sa,Sb,Sc]
        refine Ax (by kernel_rfl) ?_ _;replace hR4:=Az hR4;replace hF4:=Az hF4;go_wp2;refine bodyPost_end (fn:=Tryz.f41) (v:=.tuple #[]) (results_none rfl _ _ _) rfl ⟨rfl,ve4,?_,(hF2.out.trans (BX.DJ (hF3.out.mono (by simp[FO,Ia])))).trans (hF4.out.mono (by simp[FO,GR]))⟩;rw[←hf.out,←hnd.out];exact hR4.out
      ·rw[if_neg (fun h=>a1 h.2.2)]at hf;have x1:((av:Int)==1)=false:=Bq (by omega);have x3:((av:Int)==3)=false:=Bq (by omega);clear k1 k2 a1;replace hf:=Az hf;go_upto_region 2 with fail
       go_region
       go_upto_region 6 with fail
       go_region
       go_upto_region 10 with fail
       go_region
       go_wp2;exact bodyPost_end (fn:=Tryz.f41) (v:=.tuple #[]) (results_none rfl _ _ _) rfl (hdone.out _ (Bd (Bd (Bd (Bd (Below.refl _ _))))) hf.out.symm)
end
section
structure D3 (x y:AF):Prop where
 pg:y.pg=x.pg
 cells:y.cells=x.cells
 words:y.words.length=x.words.length
 AG:y.AG.length=x.AG.length
theorem D3.refl(x:AF):D3 x x:=⟨rfl,rfl,rfl,rfl⟩
theorem D3.trans{x y z:AF}(h:D3 x y)(k:D3 y z):D3 x z:=⟨k.pg.trans h.pg,k.cells.trans h.cells,k.words.trans h.words,k.AG.trans h.AG⟩
theorem OE(x:AF)(t:Nat)(c:CoreM)(a:Int)(w:Nat):D3 x (x.go t c a w).1:=⟨rfl,rfl,rfl,by simp[AF.go]⟩
theorem JH(x:AF)(t:Nat)(u:Bool):D3 x (x.begin t u).1:=OE x t _ _ _
theorem PT(x:AF)(t:Nat)(late:Bool):D3 x (x.step t late).1:=by
 unfold AF.step;dsimp only;split
 ·exact D3.refl x
 split
 ·exact D3.refl x
 split
 ·exact⟨rfl,rfl,rfl,by simp[AF.go]⟩
 split
 ·split
  ·exact D3.refl x
  ·exact⟨rfl,rfl,rfl,by simp[AF.go]⟩
 split
 ·exact D3.refl x
 ·rename_i a _
  generalize GA (x.pg.l.getD (x.core t).pc.toNat In.zero) (x.core t) (x.words.getD a 0) late=r;have h1:D3 x (match r.1 with |none=>x |some v=>{x with words:=x.words.set a v}):=by
   cases r.1 with
   |none=>exact D3.refl x
   |some v=>exact⟨rfl,rfl,by simp,rfl⟩
  split
  ·exact h1.trans ⟨rfl,rfl,rfl,List.length_set ..⟩
  ·exact h1.trans (OE _ _ _ _ _)
structure R9 (r q:AH) (n:Nat):Prop where
 x:D3 r.x q.x
 act:q.act.length=r.act.length
 l:q.l.length≤r.l.length+n
theorem Iw(r:AH)(t:Nat)(o:DR)(h:o.marks.length≤300):R9 r (r.Eh t o) 301:=by
 unfold AH.Eh;dsimp only;split
 ·exact⟨D3.refl _,rfl,by simp;omega⟩
 ·split
  ·exact⟨D3.refl _,rfl,by simp;omega⟩
  ·exact⟨D3.refl _,by simp,by simp;omega⟩
theorem Fu(r:AH)(kind t late:Int)(hm:Kq r.x.pg.l):R9 r (r.op kind t late) 302:=by
 unfold AH.op;split
 ·exact⟨D3.refl _,rfl,by omega⟩
 split
 ·have h:=Iw {r with x:=(r.x.begin t.toNat false).1,act:=r.act.set t.toNat 1,l:=r.l++[(1,t.toNat)]} t.toNat (r.x.begin t.toNat false).2 (EA r.x _ _ hm).2;have hl:=h.l;exact⟨(JH _ _ _).trans h.x,h.act.trans (by simp),by simp at hl;omega⟩
 split
 ·have h:=Iw {r with x:=(r.x.begin t.toNat true).1,act:=r.act.set t.toNat 3,l:=r.l++[(8,t.toNat)]} t.toNat (r.x.begin t.toNat true).2 (EA r.x _ _ hm).2;have hl:=h.l;exact⟨(JH _ _ _).trans h.x,h.act.trans (by simp),by simp at hl;omega⟩
 split
 ·have h:=Iw {r with x:=(r.x.step t.toNat (decide (late≠0))).1} t.toNat (r.x.step t.toNat (decide (late≠0))).2 (GS r.x _ _ hm).2;have hl:=h.l;exact⟨(PT _ _ _).trans h.x,h.act,Nat.le_trans hl (Nat.add_le_add_left (by decide) _)⟩
 ·exact⟨D3.refl _,rfl,by omega⟩
structure Dr (r:AH):Prop where
 n:r.x.AG.length=r.act.length
 Qv:r.act.length≤64
 n1:0<r.act.length
 code:∀ i∈r.x.pg.l,GQ i
 len:r.x.pg.l.length≤64
 cells:r.x.cells.length≤10000
 words:r.x.words.length=r.x.cells.length
 no:∀ i∈r.x.pg.l,i.op≠22∧i.op≠23∧i.op≤23
 marks:Kq r.x.pg.l
theorem Dr.ok{r:AH}(h:Dr r)(hl:r.l.length≤80000000):Kp r:=⟨h.n,h.Qv,h.n1,h.code,h.len,h.cells,h.words,h.no,h.marks,hl⟩
theorem Dr.same{r q:AH}{n:Nat}(h:Dr r)(s:R9 r q n):Dr q:=by
 obtain⟨⟨p,c,w,k⟩,a,_⟩:=s;refine⟨by rw[k,a];exact h.n,by rw[a];exact h.Qv,by rw[a];exact h.n1,by rw[p];exact h.code,by rw[p];exact h.len,by rw[c];exact h.cells,by rw[w,c];exact h.words,by rw[p];exact h.no,by rw[p];exact h.marks⟩
theorem Dr.op{r:AH}(h:Dr r)(kind t late:Int):Dr (r.op kind t late):=h.same (Fu r kind t late h.marks)
theorem Dr.ops:∀ (l:List (Int×Int×Int)) (r:AH),Dr r→Dr (r.ops l)∧(r.ops l).l.length≤r.l.length+302*l.length
 |[],r,h=>⟨h,by simp[AH.ops]⟩
 |o::l,r,h=>by
  obtain⟨h1,h2⟩:=Dr.ops l (r.op o.1 o.2.1 o.2.2) (h.op _ _ _);have h3:=(Fu r o.1 o.2.1 o.2.2 h.marks).l;refine⟨h1,?_⟩
  show((r.op o.1 o.2.1 o.2.2).ops l).l.length≤_
  rw[List.length_cons];omega
theorem Dr.new{pg:Pg}{ss is rs:List Nat}{n:Nat}(h1:1≤n)(h2:n≤64)(hc:∀ i∈pg.l,GQ i)(hl:pg.l.length≤64)(hs:ss.sum≤8192)(hi:ss.sum=is.length)(hr:rs.length=n)
  (hno:∀ i∈pg.l,i.op≠22∧i.op≠23∧i.op≤23)(hm:Kq pg.l):Dr (AH.new (AF.new pg ss is n 0 rs) n):=by
 have hcl:∀ (l:List Nat) (k:Nat),(By k l).length=l.sum:=by
  intro l;induction l with
  |nil=>intro k;rfl
  |cons x l ih=>intro k;simp[By,ih]
 refine⟨by simp[AH.new,AF.new,hr],by simpa [AH.new]using h2,by simp[AH.new];omega,hc,hl,?_,?_,hno,hm⟩
 ·show(Bt ss).length≤_
  unfold Bt;rw[hcl];omega
 ·show is.length=(Bt ss).length
  unfold Bt;rw[hcl];exact hi.symm
end
section
open Go.RowKit Go.Proofs.YtjjpiefgdggghaaGreatDoorW.PrintWords
theorem Mn{r:AH}{l:List (Int×Int×Int)}{k:Nat}(h:k<l.length):r.ops (l.take (k+1))=(r.ops (l.take k)).op (l.getD k (0,0,0)).1 (l.getD k (0,0,0)).2.1 (l.getD k (0,0,0)).2.2:=by
 rw[List.take_succ_eq_append_getElem h,List.getD_eq_getElem?_getD,List.getElem?_eq_getElem h];unfold AH.ops;rw[List.foldl_append];rfl
structure Mm (pg:Pg) (ss is rs:List Nat) (n:Nat):Prop where
 h8:ss.length≤8
 hle:∀ s∈ss,s≤4096
 E6:ss.sum≤8192
 h1:1≤n
 h2:n≤64
 Nh:ss.sum=is.length
 Lb:0<is.length
 Nn:rs.length=n
 Qm:∀ v∈is,v<4294967296
 QZ:∀ v∈rs,v<4294967296
 pk:SY pg
 code:∀ i∈pg.l,GQ i
 no:∀ i∈pg.l,i.op≠22∧i.op≠23∧i.op≤23
 WV:Kq pg.l
theorem Mm.fit{pg:Pg}{ss is rs:List Nat}{n:Nat}(h:Mm pg ss is rs n):Dr (AH.new (AF.new pg ss is n 0 rs) n):=Dr.new h.h1 h.h2 h.code h.pk.l1 h.E6 h.Nh h.Nn h.no h.WV
structure FF (W:World) (vl vs vi vr:Value) (pg:Pg) (ss is rs:List Nat):Prop where
 l:Bx W vl pg.l.length (AQ pg.l)
 s:Bx W vs ss.length (ss.map fun s:Nat=>Value.int .i64 (s:Int))
 i:Bx W vi is.length (is.map fun v:Nat=>Value.int .u32 v)
 r:Bx W vr rs.length (rs.map fun v:Nat=>Value.int .u32 v)
theorem FF.keep{W W1:World}{vl vs vi vr:Value}{pg:Pg}{ss is rs:List Nat}(h:FF W vl vs vi vr pg ss is rs)(hb:Below W.heap.size W W1):FF W1 vl vs vi vr pg ss is rs:=⟨h.l.keep hb,h.s.keep hb,h.i.keep hb,h.r.keep hb⟩
theorem FF.Wf{W:World}{vl vs vi vr:Value}{pg:Pg}{ss is rs:List Nat}{n:Nat}(h:FF W vl vs vi vr pg ss is rs)(k:Mm pg ss is rs n) :
  Calls Tryz.prog 40 #[.agg #[vl,.int .i64 pg.lock,.int .i64 pg.unlock,vs,vi,.int .i64 0,vr],.int .i64 (n:Int)] W fun e W'=>∃ pr px vc vw vo pl vd,e=.returned (.pointer (some ⟨pr,0,none⟩))∧C5 W W' pr px vl vc vw vo pl vd (.slice none 0 0) (AH.new (AF.new pg ss is n 0 rs) n) :=
 Kw W vl vs vi vr pg ss is rs n h.l h.s h.i h.r k.h8 k.hle k.E6 k.h1 k.h2 k.Lb (by have:=k.E6;have:=k.Nh;omega) (by have:=k.Nn;have:=k.h2;omega) k.Qm k.QZ
end
end Go.Proofs.YtjjpiefgdggghaaGreatDoor

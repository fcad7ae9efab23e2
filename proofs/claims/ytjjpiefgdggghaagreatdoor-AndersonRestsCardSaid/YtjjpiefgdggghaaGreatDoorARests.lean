/- ref14's Rests, of a right spec without nodes. Written by gen_rests.py. -/
import Derived.Test.YtjjpiefgdggghaaGreatDoorA03
import Derived.Test.YtjjpiefgdggghaaGreatDoorA13
import Derived.Test.YtjjpiefgdggghaaGreatDoorATraceA
import Derived.Test.YtjjpiefgdggghaaGreatDoorAFinish
set_option linter.unusedVariables false
set_option linter.unusedSimpArgs false
set_option maxRecDepth 100000
set_option maxHeartbeats 40000000
namespace Go.Proofs.YtjjpiefgdggghaaGreatDoor
section
open Go.RowKit Go.Proofs.YtjjpiefgdggghaaGreatDoorW.PrintWords
theorem EI:∀ (k:Nat) (r:AH) (t:Nat),CG (k+1) r t=(CG k r t).op 3 t 0
 |0,_,_=>rfl
 |k+1,r,t=>by
  show CG (k+1) (r.op 3 t 0) t=_
  rw[EI k];rfl
theorem Dq.steps{r:AH}{n m:Nat}(h:Dq r n m)(t:Nat):∀ k:Nat,Dq (CG k r t) n (m+k)
 |0=>h
 |k+1=>by rw[EI];exact(h.steps t k).op _ _ _
theorem PO{x:AF}{n:Nat}{l:List (Int×Int×Int)}{t lock unlock:Nat}{q1 q2 q3 q4:AH}{b:Bool}(h1:H0 5000 ((AH.new x n).ops l)=(q1,b))(h2:CG lock (q1.op 1 t 0) t=q2)(h3:q2.op 2 t 0=q3)(h4:CG unlock q3 t=q4) :
  FX x 0 n l t lock unlock=if b=false∨q1.bad=true then false else if q2.act.getD t 0≠2 then false else !q4.bad&&decide (q4.act.getD t 0=0)&&decide (Cn n q4.l=q4.l.length):=by
 unfold FX;rw[h1];dsimp only;rw[h2,h3,h4];rfl
theorem Kr(W:World)(vl vs vi vr:Value)(Ap:Option Addr)(cp:Nat)(pg:Pg)(ss is rs:List Nat)(n t lock unlock:Nat)(l:List (Int×Int×Int))(h:FF W vl vs vi vr pg ss is rs)(k:Mm pg ss is rs n)(hp:Qu W Ap l)(hl:l.length≤300)
  (hn8:n≤8)(ht:t<n)(hlk:lock≤100)(hul:unlock≤100) :
  Calls Tryz.prog 16 #[.agg #[vl,.int .i64 pg.lock,.int .i64 pg.unlock,vs,vi,.int .i64 0,vr],.int .i64 (n:Int),.slice Ap l.length cp,.int .i64 (t:Int),.int .i64 (lock:Int),.int .i64 (unlock:Int)] W fun e W'=>e=.returned (.bool (FX (AF.new pg ss is n 0 rs) 0 n l t lock unlock))∧Below W.heap.size W W':=by
 have hb0:=Bw W (.cells #[vl,.int .i64 pg.lock,.int .i64 pg.unlock,vs,vi,.int .i64 0,vr] 29);have hN:=Bv W (.cells #[vl,.int .i64 pg.lock,.int .i64 pg.unlock,vs,vi,.int .i64 0,vr] 29);have hC:=Az ((h.keep hb0).Wf k);have hfit:=k.fit;have n1:=k.h1;have n2:=k.h2;obtain⟨Ai,ci,rfl⟩:=h.i.slice;obtain⟨Ar,cr,rfl⟩:=h.r.slice;obtain⟨As,cs,rfl⟩:=h.s.slice;obtain⟨Al,cl,rfl⟩:=h.l.slice;obtain⟨x0,hx0⟩:∃ x,AF.new pg ss is n 0 rs=x:=⟨_,rfl⟩
 rw[hx0]at hC hfit ⊢;obtain⟨r0,hr0⟩:∃ x,AH.new x0 n=x:=⟨_,rfl⟩
 have hr0l:r0.l.length=0:=by rw[←hr0];rfl
 have hr0a:r0.act.length=n:=by rw[←hr0];simp[AH.new]
 obtain⟨Q0,hQ0⟩:∃ x,r0.ops l=x:=⟨_,rfl⟩
 obtain⟨⟨Q1,b1⟩,hQ1⟩:∃ x,H0 5000 Q0=x:=⟨_,rfl⟩
 obtain⟨Q2,hQ2⟩:∃ x,CG lock (Q1.op 1 t 0) t=x:=⟨_,rfl⟩
 obtain⟨Q3,hQ3⟩:∃ x,Q2.op 2 t 0=x:=⟨_,rfl⟩
 obtain⟨Q4,hQ4⟩:∃ x,CG unlock Q3 t=x:=⟨_,rfl⟩
 have hfin:=PO (x:=x0) (n:=n) (l:=l) (by rw[hr0,hQ0];exact hQ1) hQ2 hQ3 hQ4;rw[hr0]at hC hfit;rw[hfin];have hTk:∀ k,Dq (r0.ops (l.take k)) n 300:=fun k=>by
  have hs:(r0.ops (l.take k)).act.length=n∧Dr (r0.ops (l.take k))∧(r0.ops (l.take k)).l.length≤302*(l.take k).length:=by
   have g:∀ (l:List (Int×Int×Int)) (r:AH),Dr r→r.act.length=n→(r.ops l).act.length=n:=by
    intro l;induction l with
    |nil=>intro r _ h;exact h
    |cons o l ih=>intro r hf h;exact ih _ (hf.op _ _ _) ((Fu r o.1 o.2.1 o.2.2 hf.marks).act.trans h)
   obtain⟨a,b⟩:=Dr.ops (l.take k) r0 hfit;exact⟨g _ _ hfit hr0a,a,by omega⟩
  exact⟨hs.2.1,hs.1,by have h2:=hs.2.2;rw[List.length_take]at h2;omega⟩
 have hOk:∀ k,k≤l.length→Kp (r0.ops (l.take k)):=fun k hk=>(hTk k).fit.ok (by have:=(hTk k).l;omega)
 have hF0:Dq Q0 n 300:=by have:=hTk l.length;rwa [List.take_length,hQ0]at this
 have hF1:Dq Q1 n 50000:=by
  have:=Dq.fin 5000 hF0;rw[hQ1]at this;exact this.more (by omega)
 have hF1b:Dq (Q1.op 1 t 0) n 50001:=hF1.op _ _ _;have hF2s:∀ k,Dq (CG k (Q1.op 1 t 0) t) n (50001+k):=hF1b.steps t;have hF2:Dq Q2 n 50200:=by rw[←hQ2];exact(hF2s lock).more (by omega)
 have hF3:Dq Q3 n 50201:=by rw[←hQ3];exact hF2.op _ _ _
 have hF3s:∀ k,Dq (CG k Q3 t) n (50201+k):=hF3.steps t;have hF4:Dq Q4 n 50400:=by rw[←hQ4];exact(hF3s unlock).more (by omega)
 have hO1:Kp Q1:=hF1.fit.ok (by have:=hF1.l;omega);have hO2:Kp Q2:=hF2.fit.ok (by have:=hF2.l;omega);have hO2s:∀ k,k≤100→Kp (CG k (Q1.op 1 t 0) t):=fun k hk=>(hF2s k).fit.ok (by have:=(hF2s k).l;omega)
 have hO3s:∀ k,k≤100→Kp (CG k Q3 t):=fun k hk=>(hF3s k).fit.ok (by have:=(hF3s k).l;omega)
 obtain⟨fin,hfn⟩:∃ b,(if b1=false∨Q1.bad=true then false else if Q2.act.getD t 0≠2 then false else !Q4.bad&&decide (Q4.act.getD t 0=0)&&decide (Cn n Q4.l=Q4.l.length))=b:=⟨_,rfl⟩
 rw[hfn];clear k h hx0 hr0 hfit hfin hr0l hTk hF1b;generalize pg.l.length=ml at *;generalize pg.lock=lk at *;generalize pg.unlock=ul at *;generalize ss.length=ms at *;generalize is.length=mi at *;generalize rs.length=mr at *;obtain⟨m,hm⟩:∃ x,l.length=x:=⟨_,rfl⟩
 rw[hm]at hl hOk ⊢;obtain⟨W1,hW1⟩:∃ X,W.alloc (.cells #[.slice Al ml cl,.int .i64 lk,.int .i64 ul,.slice As ms cs,.slice Ai mi ci,.int .i64 0,.slice Ar mr cr] 29)=X:=⟨_,rfl⟩
 rw[hW1]at hb0 hN hC;have c0:W1.cell? ⟨W.heap.size,0,none⟩=some (.slice Al ml cl):=(Bc hN 0).trans rfl;have c1:W1.cell? ⟨W.heap.size,1,none⟩=some (.int .i64 lk):=(Bc hN 1).trans rfl;have c2:W1.cell? ⟨W.heap.size,2,none⟩=some (.int .i64 ul):=(Bc hN 2).trans rfl;have c3:W1.cell? ⟨W.heap.size,3,none⟩=some (.slice As ms cs):=(Bc hN 3).trans rfl;have c4:W1.cell? ⟨W.heap.size,4,none⟩=some (.slice Ai mi ci):=(Bc hN 4).trans rfl;have c5:W1.cell? ⟨W.heap.size,5,none⟩=some (.int .i64 0):=(Bc hN 5).trans rfl;have c6:W1.cell? ⟨W.heap.size,6,none⟩=some (.slice Ar mr cr):=(Bc hN 6).trans rfl;have hk5:=Az c5;replace hb0:=Az hb0;replace hp:=Az hp;replace hm:=Az hm;replace hOk:=Az hOk;replace hfn:=Az hfn;replace n1:=Az n1;replace n2:=Az n2;replace hn8:=Az hn8;replace hlk:=Az hlk;replace hul:=Az hul;replace hQ0:=Az hQ0;replace hQ1:=Az hQ1;replace hQ2:=Az hQ2;replace hQ3:=Az hQ3;replace hQ4:=Az hQ4;replace hF0:=Az hF0;replace hF2:=Az hF2;replace hF4:=Az hF4;replace hF1:=Az hF1;replace hF2s:=Az hF2s;replace hF3s:=Az hF3s;replace hO1:=Az hO1;replace hO2:=Az hO2;replace hO2s:=Az hO2s;replace hO3s:=Az hO3s;replace hr0a:=Az hr0a;have t0:(0:Int)≤(t:Int):=by omega
 have t1:(t:Int)<(n:Int):=by omega
 clear hN;go_enter Tryz.func16,Tryz.ntmps16;go_wp2_with fail
 try rw[hW1]
 clear hW1;refine hC.out.mono ?_;rintro e w2 ⟨pr,px,vc,vw,vo,pl,vd,rfl,hR⟩;obtain⟨gd,cd,hvd,_⟩:=Cw hR.act (by rw[hr0a.out];exact n1.out);rw[hr0a.out]at hvd;subst hvd;replace hR:=Az hR;clear hC c0 c1 c2 c3 c4 c5 c6;go_upto_block 0 with fail
 go_cut [] from 15 to 31 (fun wx=>∃ (ve:Value),Ag (C5 W1 wx pr px (.slice Al ml cl) vc vw vo pl (.slice (some ⟨gd,0,none⟩) n cd) ve Q0))
 case first =>
  go_wp2_with fail
  go_loopw [24] (fun v24 wr=>∃ (k:Nat) (ve:Value),v24=.int .i64 (k:Int)∧k≤m∧Ag (C5 W1 wr pr px (.slice Al ml cl) vc vw vo pl (.slice (some ⟨gd,0,none⟩) n cd) ve (r0.ops (l.take k)))) (fun v24 _=>m-(intOf v24).toNat)
  case atStart=>exact⟨0,_,rfl,Nat.zero_le _,hR⟩
  case round =>
   obtain⟨k,ve,rfl,hk,hI⟩:=hrel;clear hR;by_cases hlt:k<m
   ·have hkl:k<l.length:=by rw[hm.out];exact hlt
    obtain⟨ad,rfl,hpc⟩:=((hp.out.keep hb0.out).keep (hI.out.x.b)) (by omega);obtain⟨q0,q1,q2⟩:=hpc k hkl;have hst:=Mn (r:=r0) hkl;generalize l.getD k (0,0,0)=oo at q0 q1 q2 hst;obtain⟨kd,tt,lt⟩:=oo;dsimp only at q0 q1 q2 hst;have k0:(0:Int)≤(k:Int):=by omega
    have k1:(k:Int)<(m:Int):=by omega
    have kw:IntKind.i64.wrap ((k:Int)+1)=(k:Int)+1:=by rw[IntKind.wrap_i64];omega
    have hbn:=Bw wr (.cells #[.int .i64 kd,.int .i64 tt,.int .i64 lt] 85);have hO:=Az (Df W1 _ pr px _ vc vw vo pl _ ve _ kd tt lt (hI.out.keep hbn) (hOk.out k hk));clear hpc hbn hI;rw[←hst]at hO;go_wp2_with fail
    refine hO.out.mono ?_;rintro e w5 ⟨rfl,ve5,hR5,_⟩;replace hR5:=Az hR5;clear hO hst q0 q1 q2;go_wp2;go_roundw
    case rel=>exact⟨k+1,ve5,by go_num,hlt,hR5⟩
    case measure=>simp[intOf];omega
   ·obtain rfl:k=m:=by omega
    have e1:¬(k:Int)<(k:Int):=by omega
    have hIk:=hI.out;rw[←hm.out,List.take_length,hQ0.out]at hIk;replace hIk:=Az hIk;clear hI;go_wp2_with fail
    go_meet
    exact⟨ve,hIk⟩
 case rest =>
  obtain⟨ve,hR0⟩:=hcut;clear hR;have hFin:=Az (Ly W1 wc pr px n 300 _ _ _ _ _ ve pl Q0 hR0.out hF0.out n1.out hn8.out (by decide));rw[hQ1.out]at hFin;clear hR0;go_wp2_with fail
  refine hFin.out.mono ?_;rintro e w5 ⟨rfl,ve5,hR1⟩;replace hR1:=Az hR1;clear hFin;cases b1 with
  |false =>
   have hf:fin=false:=by rw[←hfn.out];rfl
   subst hf;have hB:=hb0.out.trans (hR1.out.x.b.mono hb0.out.size);replace hB:=Az hB;clear hR1;go_wp2;go_ret;exact⟨rfl,hB.out⟩
  |true =>
  have r3:w5.cell? ⟨pr,3,none⟩=some (.int .i64 (Qw Q1.bad)):=(Bc hR1.out.br 3).trans rfl;cases hbd:Q1.bad with
  |true =>
   rw[hbd]at r3;replace r3:w5.cell? ⟨pr,3,none⟩=some (.int .i64 1):=r3;have hf:fin=false:=by rw[←hfn.out,hbd];rfl
   subst hf;have hB:=hb0.out.trans (hR1.out.x.b.mono hb0.out.size);replace hB:=Az hB;clear hR1 hbd;go_wp2;go_ret;exact⟨rfl,hB.out⟩
  |false =>
  rw[hbd]at r3;replace r3:w5.cell? ⟨pr,3,none⟩=some (.int .i64 0):=r3;have hfn2:(if Q2.act.getD t 0≠2 then false else !Q4.bad&&decide (Q4.act.getD t 0=0)&&decide (Cn n Q4.l=Q4.l.length))=fin:=by rw[←hfn.out,hbd];rfl
  replace hfn2:=Az hfn2;clear hfn hbd;have k5:w5.cell? ⟨W.heap.size,5,none⟩=some (.int .i64 0):=Ck hR1.out.x.b hk5.out;go_upto_region 9 with fail
  go_region
  have hRd:=Az (hR1.out.keep (Bd (Below.refl _ _)));have hO:=Az (Df W1 w5.drew pr px _ _ _ _ pl _ ve5 Q1 1 (t:Int) 0 hRd.out hO1.out);clear hR1 r3 k5 hRd;go_wp2_with fail
  refine hO.out.mono ?_;rintro e w6 ⟨rfl,ve6,hR6,_⟩;replace hR6:=Az hR6;clear hO;go_upto_block 2 with fail
  go_cut [] from 17 to 71 (fun wx=>∃ (ve:Value),Ag (C5 W1 wx pr px (.slice Al ml cl) vc vw vo pl (.slice (some ⟨gd,0,none⟩) n cd) ve Q2))
  case first =>
   go_wp2_with fail
   go_loopw [17] (fun v17 wr=>∃ (k:Nat) (ve:Value),v17=.int .i64 (k:Int)∧k≤lock∧Ag (C5 W1 wr pr px (.slice Al ml cl) vc vw vo pl (.slice (some ⟨gd,0,none⟩) n cd) ve (CG k (Q1.op 1 t 0) t))) (fun v17 _=>lock-(intOf v17).toNat)
   case atStart=>exact⟨0,_,rfl,Nat.zero_le _,hR6⟩
   case round =>
    obtain⟨k,ve,rfl,hk,hI⟩:=hrel;clear hR6;by_cases hlt:k<lock
    ·have k1:(k:Int)<(lock:Int):=by omega
     have kw:IntKind.i64.wrap ((k:Int)+1)=(k:Int)+1:=by have:=hlk.out;rw[IntKind.wrap_i64];omega
     have hst:=EI k (Q1.op 1 t 0) t;have hO:=Az (Df W1 wr pr px _ _ _ _ pl _ ve _ 3 (t:Int) 0 hI.out (hO2s.out k (by have:=hlk.out;omega)));rw[←hst]at hO;clear hst hI;go_wp2_with fail
     refine hO.out.mono ?_;rintro e w7 ⟨rfl,ve7,hR7,_⟩;replace hR7:=Az hR7;clear hO;go_wp2;go_roundw
     case rel=>exact⟨k+1,ve7,by go_num,hlt,hR7⟩
     case measure=>simp[intOf];omega
    ·obtain rfl:k=lock:=by omega
     have e1:¬(k:Int)<(k:Int):=by omega
     rw[hQ2.out]at hI;go_wp2_with fail
     go_meet
     exact⟨ve,hI⟩
  case rest =>
   obtain⟨ve2,hR2⟩:=hcut;clear hR6;obtain⟨_,_,hca⟩:=ET hR2.out.act hF2.out.act ht;have d1:wc.cell? ⟨pr,1,none⟩=some (.slice (some ⟨gd,0,none⟩) n cd):=(Bc hR2.out.br 1).trans rfl;obtain⟨av,hav⟩:∃ x,Q2.act.getD t 0=x:=⟨_,rfl⟩
   rw[hav]at hca hfn2;clear hav;by_cases a2:av=2;case neg =>
    have x2:((av:Int) != 2)=true:=bne_iff_ne.2 (by omega);have x3:((av:Int)==2)=false:=Bq (by omega);have hf:fin=false:=by rw[←hfn2.out,if_pos a2]
    subst hf;have hB:=hb0.out.trans (hR2.out.x.b.mono hb0.out.size);replace hB:=Az hB;clear hR2 a2;go_wp2;go_ret;exact⟨rfl,hB.out⟩
   subst a2;have hfn3:(!Q4.bad&&decide (Q4.act.getD t 0=0)&&decide (Cn n Q4.l=Q4.l.length))=fin:=by rw[←hfn2.out];rfl
   replace hfn3:=Az hfn3;have hO:=Az (Df W1 wc pr px _ _ _ _ pl _ ve2 Q2 2 (t:Int) 0 hR2.out hO2.out);rw[hQ3.out]at hO;clear hfn2 hR2;go_wp2_with fail
   refine hO.out.mono ?_;rintro e w8 ⟨rfl,ve8,hR8,_⟩;replace hR8:=Az hR8;clear hO hca d1;go_upto_block 4 with fail
   go_cut [] from 18 to 124 (fun wx=>∃ (ve:Value),Ag (C5 W1 wx pr px (.slice Al ml cl) vc vw vo pl (.slice (some ⟨gd,0,none⟩) n cd) ve Q4))
   case first =>
    go_wp2_with fail
    go_loopw [18] (fun v18 wr=>∃ (k:Nat) (ve:Value),v18=.int .i64 (k:Int)∧k≤unlock∧Ag (C5 W1 wr pr px (.slice Al ml cl) vc vw vo pl (.slice (some ⟨gd,0,none⟩) n cd) ve (CG k Q3 t))) (fun v18 _=>unlock-(intOf v18).toNat)
    case atStart=>exact⟨0,_,rfl,Nat.zero_le _,hR8⟩
    case round =>
     obtain⟨k,ve,rfl,hk,hI⟩:=hrel;clear hR8;by_cases hlt:k<unlock
     ·have k1:(k:Int)<(unlock:Int):=by omega
      have kw:IntKind.i64.wrap ((k:Int)+1)=(k:Int)+1:=by have:=hul.out;rw[IntKind.wrap_i64];omega
      have hst:=EI k Q3 t;have hO:=Az (Df W1 wr pr px _ _ _ _ pl _ ve _ 3 (t:Int) 0 hI.out (hO3s.out k (by have:=hul.out;omega)));rw[←hst]at hO;clear hst hI;go_wp2_with fail
      refine hO.out.mono ?_;rintro e w9 ⟨rfl,ve9,hR9,_⟩;replace hR9:=Az hR9;clear hO;go_wp2;go_roundw
      case rel=>exact⟨k+1,ve9,by go_num,hlt,hR9⟩
      case measure=>simp[intOf];omega
     ·obtain rfl:k=unlock:=by omega
      have e1:¬(k:Int)<(k:Int):=by omega
      rw[hQ4.out]at hI;go_wp2_with fail
      go_meet
      exact⟨ve,hI⟩
   case rest =>
    obtain⟨ve4,hR4⟩:=hcut;clear hR8;have hIk:=hR4.out;have hlen:=hF4.out.l;obtain⟨_,_,hca⟩:=ET hR4.out.act hF4.out.act ht;clear hR4;have hB:=hb0.out.trans (hIk.x.b.mono hb0.out.size);have hbr:=hIk.br;obtain⟨Ae,ce,rfl,hce,hEc⟩:=Eo.c hIk.l;have hCk:=Az (Fh wc.drew Ae ce Q4.l n n1.out n2.out (hEc.keep (Bd (Below.refl _ _))) (by omega) hce);replace hB:=Az (hB.trans (Bd (Below.refl _ _)));obtain⟨mq,hmq⟩:∃ x,Q4.l.length=x:=⟨_,rfl⟩
    rw[hmq]at hCk hbr;have hfq:=hfn3.out;rw[hmq]at hfq;obtain⟨av,hav⟩:∃ x,Q4.act.getD t 0=x:=⟨_,rfl⟩
    rw[hav]at hca hfq;replace hfq:=Az hfq;have r3:=(Bc hbr 3).trans rfl;have r2:=(Bc hbr 2).trans rfl;have r1:wc.cell? ⟨pr,1,none⟩=some (.slice (some ⟨gd,0,none⟩) n cd):=(Bc hbr 1).trans rfl;clear hmq hlen hfn3 hav;go_upto_region 24 with fail
    cases hbd:Q4.bad with
    |true =>
     rw[hbd]at r3;replace r3:wc.cell? ⟨pr,3,none⟩=some (.int .i64 1):=r3;have hf:fin=false:=by rw[←hfq.out,hbd];rfl
     subst hf;clear hbd hIk hEc hce hbr hCk r2 hca r1;go_region
     go_wp2;go_ret;exact⟨rfl,hB.out⟩
    |false =>
     by_cases ha:av=0;case neg =>
      rw[hbd]at r3;replace r3:wc.cell? ⟨pr,3,none⟩=some (.int .i64 0):=r3;have hf:fin=false:=by rw[←hfq.out,decide_eq_false ha];simp
      subst hf;have y:((av:Int)==0)=false:=Bq (by omega);clear hbd hIk hEc hce hbr hCk r2 ha;go_region
      go_wp2;go_ret;exact⟨rfl,hB.out⟩
     subst ha;have hf:fin=decide (Cn n Q4.l=mq):=by rw[←hfq.out,hbd];simp
     replace hf:=Az hf;have hS5:(fun W'=>W'.cell? ⟨pr,3,none⟩=some (.int .i64 0)∧W'.cell? ⟨pr,1,none⟩=some (.slice (some ⟨gd,0,none⟩) n cd)∧W'.cell? ⟨gd,t,none⟩=some (.int .i64 0)∧W'.cell? ⟨pr,2,none⟩=some (.slice Ae mq ce)) wc.drew:=⟨(Bc (Be hbr) 3).trans (by rw[hbd];rfl),(Bc (Be hbr) 1).trans rfl,hca,(Bc (Be hbr) 2).trans rfl⟩
     clear hbd hIk hEc hce hbr r2 r3 r1 hca;refine Av [] (S:=fun W'=>W'.cell? ⟨pr,3,none⟩=some (.int .i64 0)∧W'.cell? ⟨pr,1,none⟩=some (.slice (some ⟨gd,0,none⟩) n cd)∧W'.cell? ⟨gd,t,none⟩=some (.int .i64 0)∧W'.cell? ⟨pr,2,none⟩=some (.slice Ae mq ce)) (by kernel_rfl) hS5 (fun hS0=>?_);clear hS5;try simp only[Act.put,Sa,Sb,Sc]
     refine tY 0 (fun _=>hS0) ?_;refine tY 1 (fun _=>hS0) ?_;refine tY 2 (fun _=>hS0) ?_;refine tL 3 (hS0) ?_;refine tY 4 (fun _=>hS0) ?_;refine tY 5 (fun _=>hS0) ?_;refine tY 6 (fun _=>hS0) ?_;refine tY 7 (fun _=>hS0) ?_;refine tY 8 (fun _=>hS0) ?_;refine tL 9 (hS0) ?_;refine tY 10 (fun _=>hS0) ?_;refine tY 11 (fun _=>hS0) ?_;refine tL 12 (hS0) ?_;refine tY 13 (fun _=>hS0) ?_;refine tY 14 (fun _=>hS0) ?_;refine tY 15 (fun _=>hS0) ?_;refine tY 16 (fun _=>hS0) ?_;refine tY 17 (fun _=>hS0) ?_;refine tY 18 (fun _=>hS0) ?_;refine tY 19 (fun _=>hS0) ?_;refine tL 20 (hS0) ?_;refine tY 22 (fun _=>hS0) ?_;refine tY 23 (fun _=>hS0) ?_;refine tY 24 (fun _=>hS0) ?_;refine tL 25 (hS0) ?_;refine tY 26 (fun _=>hS0) ?_;refine Ab (rs:=[21]) (by kernel_rfl) (by simp) ?_;refine Aa.cons (Au rfl) (fun K hK=>?_) Aa.nil;rw[if_pos (by rfl)];go_wp2_with fail
     refine hCk.out.mono ?_;rintro e w8 ⟨rfl,hB8⟩;replace hB:=Az (hB.out.trans (hB8.mono hB.out.size));replace hS0:(fun W'=>W'.cell? ⟨pr,3,none⟩=some (.int .i64 0)∧W'.cell? ⟨pr,1,none⟩=some (.slice (some ⟨gd,0,none⟩) n cd)∧W'.cell? ⟨gd,t,none⟩=some (.int .i64 0)∧W'.cell? ⟨pr,2,none⟩=some (.slice Ae mq ce)) w8:=⟨Ck hB8 hS0.1,Ck hB8 hS0.2.1,Ck hB8 hS0.2.2.1,Ck hB8 hS0.2.2.2⟩
     refine hK.out _ _ (fun _=>hS0) (fun _=>?_);clear hK hCk hB8;try simp only[Act.put,Sa,Sb,Sc]
     by_cases hck:Cn n Q4.l=mq;case pos =>
      have hf2:fin=true:=hf.out.trans (decide_eq_true hck);subst hf2;rw[hck];refine tY 27 (fun _=>hS0) ?_;refine tY 28 (fun _=>hS0) ?_;refine tY 29 (fun _=>hS0) ?_;refine Ax (by kernel_rfl) ?_ _;go_wp2;go_ret;exact⟨rfl,hB.out⟩
     case neg =>
      have hf2:fin=false:=hf.out.trans (decide_eq_false hck);subst hf2;have y2:((Cn n Q4.l:Int)==(mq:Int))=false:=Bq (by omega);clear hck;refine tY 27 (fun _=>hS0) ?_;refine tY 28 (fun _=>hS0) ?_;refine tY 29 (fun _=>hS0) ?_;refine Ax (by kernel_rfl) ?_ _;go_wp2;go_ret;exact⟨rfl,hB.out⟩
end
end Go.Proofs.YtjjpiefgdggghaaGreatDoor

/- ref14's Trace, where the row of the operations begins anywhere. Written by gen_tracea.py. -/
import Derived.Test.YtjjpiefgdggghaaGreatDoorA03
import Derived.Test.YtjjpiefgdggghaaGreatDoorA13
import Derived.Test.YtjjpiefgdggghaaGreatDoorA41
set_option linter.unusedVariables false
set_option linter.unusedSimpArgs false
set_option maxRecDepth 100000
set_option maxHeartbeats 40000000
namespace Go.Proofs.YtjjpiefgdggghaaGreatDoor
section
open Go.RowKit Go.Proofs.YtjjpiefgdggghaaGreatDoorW.PrintWords
def Qu(W:World)(A:Option Addr)(l:List (Int×Int×Int)):Prop :=
 0<l.length→∃ ad:Addr,A=some ad∧∀ j,j<l.length→W.cell? (ad.add (j*3))=some (.int .i64 (l.getD j (0,0,0)).1)∧W.cell? ⟨(ad.add (j*3)).block,(ad.add (j*3)).off+1,none⟩=some (.int .i64 (l.getD j (0,0,0)).2.1)∧W.cell? ⟨(ad.add (j*3)).block,(ad.add (j*3)).off+2,none⟩=some (.int .i64 (l.getD j (0,0,0)).2.2)
theorem Qu.keep{W W1:World}{A:Option Addr}{l:List (Int×Int×Int)}(h:Qu W A l)(hb:Below W.heap.size W W1):Qu W1 A l:=fun hp=>by
 obtain⟨ad,rfl,hc⟩:=h hp;exact⟨ad,rfl,fun j hj=>⟨Ck hb (hc j hj).1,Ck hb (hc j hj).2.1,Ck hb (hc j hj).2.2⟩⟩
theorem Ld(W:World)(vl vs vi vr:Value)(Ap:Option Addr)(cp:Nat)(pg:Pg)(ss is rs:List Nat)(n:Nat)(l:List (Int×Int×Int))(h:FF W vl vs vi vr pg ss is rs)(k:Mm pg ss is rs n)(hp:Qu W Ap l)(hl:l.length≤300) :
  Calls Tryz.prog 23 #[.agg #[vl,.int .i64 pg.lock,.int .i64 pg.unlock,vs,vi,.int .i64 0,vr],.int .i64 (n:Int),.slice Ap l.length cp] W fun e W'=>e=.returned (.bool (Le (AF.new pg ss is n 0 rs) n l))∧Below W.heap.size W W':=by
 have hb0:=Bw W (.cells #[vl,.int .i64 pg.lock,.int .i64 pg.unlock,vs,vi,.int .i64 0,vr] 29);have hN:=Bv W (.cells #[vl,.int .i64 pg.lock,.int .i64 pg.unlock,vs,vi,.int .i64 0,vr] 29);have hC:=Az ((h.keep hb0).Wf k);have hfit:=k.fit;have n1:=k.h1;have n2:=k.h2;obtain⟨Ai,ci,rfl⟩:=h.i.slice;obtain⟨Ar,cr,rfl⟩:=h.r.slice;obtain⟨As,cs,rfl⟩:=h.s.slice;obtain⟨Al,cl,rfl⟩:=h.l.slice;obtain⟨x0,hx0⟩:∃ x,AF.new pg ss is n 0 rs=x:=⟨_,rfl⟩
 rw[hx0]at hC hfit ⊢;obtain⟨r0,hr0⟩:∃ x,AH.new x0 n=x:=⟨_,rfl⟩
 have hr0l:r0.l.length=0:=by rw[←hr0];rfl
 have hfin:Le x0 n l=(r0.ops l).Ic n:=by rw[←hr0];rfl
 rw[hr0]at hC hfit;rw[hfin];have hOk:∀ k,k≤l.length→Kp (r0.ops (l.take k)):=fun k hk=>by
  obtain⟨a,b⟩:=Dr.ops (l.take k) r0 hfit;exact a.ok (by rw[List.length_take]at b;omega)
 obtain⟨fin,hfn⟩:∃ b,(r0.ops l).Ic n=b:=⟨_,rfl⟩
 rw[hfn];clear k h hx0 hr0 hfit hfin hr0l;generalize pg.l.length=ml at *;generalize pg.lock=lk at *;generalize pg.unlock=ul at *;generalize ss.length=ms at *;generalize is.length=mi at *;generalize rs.length=mr at *;obtain⟨m,hm⟩:∃ x,l.length=x:=⟨_,rfl⟩
 rw[hm]at hl hOk ⊢;obtain⟨W1,hW1⟩:∃ X,W.alloc (.cells #[.slice Al ml cl,.int .i64 lk,.int .i64 ul,.slice As ms cs,.slice Ai mi ci,.int .i64 0,.slice Ar mr cr] 29)=X:=⟨_,rfl⟩
 rw[hW1]at hb0 hN hC;have c0:W1.cell? ⟨W.heap.size,0,none⟩=some (.slice Al ml cl):=(Bc hN 0).trans rfl;have c1:W1.cell? ⟨W.heap.size,1,none⟩=some (.int .i64 lk):=(Bc hN 1).trans rfl;have c2:W1.cell? ⟨W.heap.size,2,none⟩=some (.int .i64 ul):=(Bc hN 2).trans rfl;have c3:W1.cell? ⟨W.heap.size,3,none⟩=some (.slice As ms cs):=(Bc hN 3).trans rfl;have c4:W1.cell? ⟨W.heap.size,4,none⟩=some (.slice Ai mi ci):=(Bc hN 4).trans rfl;have c5:W1.cell? ⟨W.heap.size,5,none⟩=some (.int .i64 0):=(Bc hN 5).trans rfl;have c6:W1.cell? ⟨W.heap.size,6,none⟩=some (.slice Ar mr cr):=(Bc hN 6).trans rfl;replace hb0:=Az hb0;replace hp:=Az hp;replace hm:=Az hm;replace hOk:=Az hOk;replace hfn:=Az hfn;replace n1:=Az n1;replace n2:=Az n2;clear hN;go_enter Tryz.func23,Tryz.ntmps23;go_wp2_with fail
 try rw[hW1]
 clear hW1;refine hC.out.mono ?_;rintro e w2 ⟨pr,px,vc,vw,vo,pl,vd,rfl,hR⟩;replace hR:=Az hR;clear hC c0 c1 c2 c3 c4 c5 c6;go_wp2_with fail
 go_loopw [15] (fun v15 wr=>∃ (k:Nat) (ve:Value),v15=.int .i64 (k:Int)∧k≤m∧Ag (C5 W1 wr pr px (.slice Al ml cl) vc vw vo pl vd ve (r0.ops (l.take k)))) (fun v15 _=>m-(intOf v15).toNat)
 case atStart=>exact⟨0,_,rfl,Nat.zero_le _,hR⟩
 case round =>
  obtain⟨k,ve,rfl,hk,hI⟩:=hrel;clear hR;by_cases hlt:k<m
  ·have hkl:k<l.length:=by rw[hm.out];exact hlt
   obtain⟨ad,rfl,hpc⟩:=((hp.out.keep hb0.out).keep (hI.out.x.b)) (by omega);obtain⟨q0,q1,q2⟩:=hpc k hkl;have hst:=Mn (r:=r0) hkl;generalize l.getD k (0,0,0)=oo at q0 q1 q2 hst;obtain⟨kd,tt,lt⟩:=oo;dsimp only at q0 q1 q2 hst;have k0:(0:Int)≤(k:Int):=by omega
   have k1:(k:Int)<(m:Int):=by omega
   have kw:IntKind.i64.wrap ((k:Int)+1)=(k:Int)+1:=by rw[IntKind.wrap_i64];omega
   have hbn:=Bw wr (.cells #[.int .i64 kd,.int .i64 tt,.int .i64 lt] 85);have hO:=Az (Df W1 _ pr px _ vc vw vo pl vd ve _ kd tt lt (hI.out.keep hbn) (hOk.out k hk));clear hpc hbn hI;rw[←hst]at hO;go_wp2_with fail
   refine hO.out.mono ?_;rintro e w5 ⟨rfl,ve5,hR5,_⟩;replace hR5:=Az hR5;clear hO hst q0 q1 q2;go_wp2;go_roundw
   case rel=>exact⟨k+1,ve5,by go_num,hlt,hR5⟩
   case measure=>simp[intOf];omega
  ·obtain rfl:k=m:=by omega
   have e1:¬(k:Int)<(k:Int):=by omega
   have hIk:=hI.out;rw[←hm.out,List.take_length]at hIk;have hlen:=(hOk.out k (Nl _)).l;rw[←hm.out,List.take_length]at hlen;clear hI;obtain⟨q,hq⟩:∃ x,r0.ops l=x:=⟨_,rfl⟩
   rw[hq]at hIk hlen hfn;have hB:=hb0.out.trans (hIk.x.b.mono hb0.out.size);clear hq;have hbr:=hIk.br;obtain⟨Ae,ce,rfl,hce,hEc⟩:=Eo.c hIk.l;have hCk:=Az (Fh wr.drew Ae ce q.l n n1.out n2.out (hEc.keep (Bd (Below.refl _ _))) (by omega) hce);replace hB:=Az (hB.trans (Bd (Below.refl _ _)));obtain⟨mq,hmq⟩:∃ x,q.l.length=x:=⟨_,rfl⟩
   rw[hmq]at hCk hbr;have r3:=(Bc hbr 3).trans rfl;have r2:=(Bc hbr 2).trans rfl;go_upto_region 7 with fail
   cases hbd:q.bad with
   |true =>
    rw[hbd]at r3;replace r3:wr.cell? ⟨pr,3,none⟩=some (.int .i64 1):=r3;have hf:fin=false:=by rw[←hfn.out];simp[AH.Ic,hbd]
    subst hf;clear hbd hIk hlen hEc hce hbr hmq hCk r2;go_region
    go_wp2;go_ret;exact⟨rfl,hB.out⟩
   |false =>
    rw[hbd]at r3;have hf:fin=decide (Cn n q.l=mq):=by rw[←hfn.out,←hmq];simp[AH.Ic,hbd]
    replace hf:=Az hf;have hS5:(fun W'=>W'.cell? ⟨pr,3,none⟩=some (.int .i64 0)∧W'.cell? ⟨pr,2,none⟩=some (.slice Ae mq ce)) wr.drew:=⟨(Bc (Be hbr) 3).trans (by rw[hbd];rfl),(Bc (Be hbr) 2).trans rfl⟩
    clear hbd hIk hlen hEc hce hbr hmq r2 r3;refine Av [] (S:=fun W'=>W'.cell? ⟨pr,3,none⟩=some (.int .i64 0)∧W'.cell? ⟨pr,2,none⟩=some (.slice Ae mq ce)) (by kernel_rfl) hS5 (fun hS0=>?_);clear hS5;try simp only[Act.put,Sa,Sb,Sc]
    refine tY 0 (fun _=>hS0) ?_;refine tY 1 (fun _=>hS0) ?_;refine tY 2 (fun _=>hS0) ?_;refine tL 3 (hS0) ?_;refine tY 4 (fun _=>hS0) ?_;refine tY 5 (fun _=>hS0) ?_;refine tY 6 (fun _=>hS0) ?_;refine tY 7 (fun _=>hS0) ?_;refine tY 8 (fun _=>hS0) ?_;refine tY 9 (fun _=>hS0) ?_;refine tL 10 (hS0) ?_;refine tY 12 (fun _=>hS0) ?_;refine tY 13 (fun _=>hS0) ?_;refine tY 14 (fun _=>hS0) ?_;refine tL 15 (hS0) ?_;refine tY 16 (fun _=>hS0) ?_;refine Ab (rs:=[11]) (by kernel_rfl) (by simp) ?_;refine Aa.cons (Au rfl) (fun K hK=>?_) Aa.nil;rw[if_pos (by rfl)];go_wp2_with fail
    refine hCk.out.mono ?_;rintro e w8 ⟨rfl,hB8⟩;replace hB:=Az (hB.out.trans (hB8.mono hB.out.size));replace hS0:(fun W'=>W'.cell? ⟨pr,3,none⟩=some (.int .i64 0)∧W'.cell? ⟨pr,2,none⟩=some (.slice Ae mq ce)) w8:=⟨Ck hB8 hS0.1,Ck hB8 hS0.2⟩
    refine hK.out _ _ (fun _=>hS0) (fun _=>?_);clear hK hCk hB8;try simp only[Act.put,Sa,Sb,Sc]
    by_cases hck:Cn n q.l=mq;case pos =>
     have hf2:fin=true:=hf.out.trans (decide_eq_true hck);subst hf2;rw[hck];refine tY 17 (fun _=>hS0) ?_;refine tY 18 (fun _=>hS0) ?_;refine tY 19 (fun _=>hS0) ?_;refine Ax (by kernel_rfl) ?_ _;go_wp2;go_ret;exact⟨rfl,hB.out⟩
    case neg =>
     have hf2:fin=false:=hf.out.trans (decide_eq_false hck);subst hf2;have y:((Cn n q.l:Int)==(mq:Int))=false:=Bq (by omega);clear hck;refine tY 17 (fun _=>hS0) ?_;refine tY 18 (fun _=>hS0) ?_;refine tY 19 (fun _=>hS0) ?_;refine Ax (by kernel_rfl) ?_ _;go_wp2;go_ret;exact⟨rfl,hB.out⟩
end
end Go.Proofs.YtjjpiefgdggghaaGreatDoor

/- Parts: RunOp, RunOps, Trace, TraceA, OpsArg, ServP, LawKit. -/
import Derived.Test.YtjjpiefgdggghaaGreatDoorK05
import Derived.Test.YtjjpiefgdggghaaGreatDoorK12
import Derived.Test.YtjjpiefgdggghaaGreatDoorK44
import Derived.Test.YtjjpiefgdggghaaGreatDoorK36
import Derived.Test.YtjjpiefgdggghaaGreatDoorK39
import Derived.Deep.Slices
import Derived.ChangeSame
import Derived.Carry
import Derived.Test.YtjjpiefgdggghaaGreatDoorK48
import Derived.Test.YtjjpiefgdggghaaGreatDoorK27
set_option linter.unusedVariables false
set_option linter.unusedSimpArgs false
set_option maxRecDepth 100000
set_option maxHeartbeats 40000000
namespace Go.Proofs.YtjjpiefgdggghaaGreatDoor
section
open Go.RowKit Go.Proofs.YtjjpiefgdggghaaGreatDoorW.PrintWords
def Hp:List TypeId:=[155,45,94,90,97]
def XY(w W:World)(pr px:Nat)(vl vc vw vr:Value)(pl:Option Addr)(vd:Value)(r:AQ)(e:Ending)(W':World):Prop :=
 e=.returned (.tuple #[])∧∃ ve',CZ w W' pr px vl vc vw vr pl vd ve' r∧Cq w.heap.size Hp (L8 vd) W W'
structure Mp (r:AQ):Prop where
 n:r.x.AP.length=r.act.length
 TU:r.act.length≤64
 n1:0<r.act.length
 code:∀ i∈r.x.pg.l,Ib i
 len:r.x.pg.l.length≤64
 cells:r.x.cells.length≤10000
 words:r.x.words.length=r.x.cells.length
 no:∀ i∈r.x.pg.l,i.op≠22∧i.op≠23∧i.op≤23
 marks:Mo r.x.pg.l
 l:r.l.length≤80000000
theorem DB(w W:World)(pr px:Nat)(vl vc vw vr:Value)(pl:Option Addr)(vd ve:Value)(r:AQ)(kind t late:Int)(h:CZ w W pr px vl vc vw vr pl vd ve r)(hok:Mp r) :
  Calls Tryz.prog 41 #[.pointer (some ⟨pr,0,none⟩),.agg #[.int .i64 kind,.int .i64 t,.int .i64 late]] W (XY w W pr px vl vc vw vr pl vd (r.op kind t late)):=by
 obtain⟨fin,hfin⟩:∃ x,r.op kind t late=x:=⟨_,rfl⟩
 rw[hfin];have hact:=h.act;unfold Cc at hact;obtain⟨gd,cd,hvd,_,hgd,⟨cs,hcs,_⟩,hcell⟩:=CO hact hok.n1;subst hvd;obtain⟨W1,hW1⟩:∃ X,W.alloc (.cells #[.int .i64 kind,.int .i64 t,.int .i64 late] 85)=X:=⟨_,rfl⟩
 have hb1:Below W.heap.size W W1:=by rw[←hW1];exact Bw W _
 have b3:W1.heap[W.heap.size]?=some (.cells #[.int .i64 kind,.int .i64 t,.int .i64 late] 85 (0,0)):=by rw[←hW1];exact Bv W _
 have hR1:=h.keep hb1;have q0:W1.cell? ⟨W.heap.size,0,none⟩=some (.int .i64 kind):=(Bc b3 0).trans rfl;have q1:W1.cell? ⟨W.heap.size,1,none⟩=some (.int .i64 t):=(Bc b3 1).trans rfl;have q2:W1.cell? ⟨W.heap.size,2,none⟩=some (.int .i64 late):=(Bc b3 2).trans rfl;obtain⟨nd,hnd⟩:∃ y,r.act.length=y:=⟨_,rfl⟩
 rw[hnd];have c1:W1.cell? ⟨pr,1,none⟩=some (.slice (some ⟨gd,0,none⟩) nd cd):=by rw[←hnd];exact(Bc hR1.br 1).trans rfl
 have c3:W1.cell? ⟨pr,3,none⟩=some (.int .i64 (Uw r.bad)):=(Bc hR1.br 3).trans rfl;have FW:Cq w.heap.size Hp (fun _=>False) W W1:=Cq.CD hb1;have hdone:∀ W2,Below W1.heap.size W1 W2→fin=r→XY w W pr px vl vc vw vr pl (.slice (some ⟨gd,0,none⟩) nd cd) fin (.returned (.tuple #[])) W2:=by
  rintro W2 hb rfl;rw[←hnd];exact⟨rfl,ve,hR1.keep hb,(FW.then hb).E3⟩
 have hgn:¬L8 (.slice (some ⟨gd,0,none⟩) nd cd) W.heap.size:=fun e=>by
  have h1:=Bl hcs;have h2:gd=W.heap.size:=by injection e
  omega
 replace hgn:=Az hgn;replace hfin:=Az hfin;replace hR1:=Az hR1;replace FW:=Az FW;replace b3:=Az b3;replace h:=Az h;replace hdone:=Az hdone;replace hnd:=Az hnd;go_enter Tryz.func41,Tryz.ntmps41;go_wp2_with fail
 try rw[hW1]
 clear hW1;by_cases ht0:t<0
 ·have hf:fin=r:=by rw[←hfin.out,AQ.op];exact if_pos (.inl ht0)
  replace hf:=Az hf;clear hfin;go_region
  go_wp2;exact bodyPost_ret (fn:=Tryz.f41) (v:=.tuple #[]) (results_none rfl _ _ _) rfl (hdone.out _ (Bd (Below.refl _ _)) hf.out)
 ·by_cases htn:t≥r.act.length
  ·have hf:fin=r:=by rw[←hfin.out,AQ.op];exact if_pos (.inr (.inl htn))
   replace hf:=Az hf;rw[hnd.out]at htn;have htn':(nd:Int)≤t:=htn;clear hfin;go_region
   go_wp2;exact bodyPost_ret (fn:=Tryz.f41) (v:=.tuple #[]) (results_none rfl _ _ _) rfl (hdone.out _ (Bd (Below.refl _ _)) hf.out)
  ·obtain⟨tn,rfl⟩:∃ y:Nat,t=y:=⟨t.toNat,by omega⟩
   have htl:tn<r.act.length:=by omega
   have hnd':=hnd.out;have t1:(tn:Int)<(nd:Int):=by omega
   have t3:¬nd≤tn:=by omega
   clear hnd';have t2:(0:Int)≤(tn:Int):=by omega
   obtain⟨av,hav⟩:∃ y,r.act.getD tn 0=y:=⟨_,rfl⟩
   have ca:W1.cell? ⟨gd,tn,none⟩=some (.int .i64 (av:Int)):=(Ck hb1 (hcell tn _ (by rw[←hav];simp[List.getD_eq_getElem?_getD,List.getElem?_eq_getElem htl])))
   clear hcell;by_cases hbad:r.bad=true
   ·have hf:fin=r:=by rw[←hfin.out,AQ.op];exact if_pos (.inr (.inr hbad))
    replace hf:=Az hf;have c3':W1.cell? ⟨pr,3,none⟩=some (.int .i64 1):=by rw[c3,hbad];rfl
    clear hfin c3;go_region
    go_wp2;exact bodyPost_ret (fn:=Tryz.f41) (v:=.tuple #[]) (results_none rfl _ _ _) rfl (hdone.out _ (Bd (Below.refl _ _)) hf.out)
   ·have hbf:r.bad=false:=by simpa using hbad
    have c3':W1.cell? ⟨pr,3,none⟩=some (.int .i64 0):=by rw[c3,hbf];rfl
    have hf:=hfin.out;unfold AQ.op at hf;rw[if_neg (by rw[hbf];simp;omega)]at hf;simp only[Int.toNat_natCast,hav]at hf;clear hfin c3 hbad hbf;go_region
    by_cases k1:kind=1
    ·subst k1;by_cases a0:av=0
     ·rw[if_pos ⟨rfl,a0⟩]at hf;have ca':W1.cell? ⟨gd,tn,none⟩=some (.int .i64 0):=by rw[ca,a0];rfl
      clear ca a0;have ca:=ca';clear ca';go_upto_region 2 with fail
      go_region
      replace hf:=Az hf;have fa:=Bf (Bk hb1 hcs) tn;have hS3:W1.drew.drew.drew.cell? ⟨pr,1,none⟩=some (.slice (some ⟨gd,0,none⟩) nd cd)∧W1.drew.drew.drew.cell? ⟨W.heap.size,1,none⟩=some (.int .i64 (tn:Int)):=⟨c1,q1⟩
      go_upto_region 3 with fail
      refine Aw [7] (S:=fun W'=>W'.cell? ⟨pr,1,none⟩=some (.slice (some ⟨gd,0,none⟩) nd cd)∧W'.cell? ⟨W.heap.size,1,none⟩=some (.int .i64 (tn:Int))) (by kernel_rfl) hS3 (fun hS0=>?_);try simp only[Act.put,Sa,Sb,Sc]
      refine tY 0 (fun _=>hS0) ?_;refine tY 1 (fun _=>hS0) ?_;refine tY 2 (fun _=>hS0) ?_;refine tL 3 (hS0) ?_;refine tY 4 (fun _=>hS0) ?_;refine tL 5 (hS0) ?_;refine tY 6 (fun _=>hS0) ?_;refine Ab (rs:=[7]) (by kernel_rfl) (by simp) ?_;refine Aa.cons (An rfl) (fun K hK=>?_) Aa.nil;rw[if_pos (by rfl)];go_wp2_with fail
      refine hK.out _ _ (fun h=>by cases h) (fun _=>?_);clear hK hS0 hS3;try simp only[Act.put,Sa,Sb,Sc]
      refine A4 (by kernel_rfl) ?_ _;obtain⟨WS,hWS⟩:∃ X,W1.setCell ⟨gd,tn,none⟩ (.int .i64 1)=X:=⟨_,rfl⟩
      try rw[hWS]
      obtain⟨hRs,hFs,hFsM⟩:=hR1.out.J7 (v:=1) htl WS hWS.symm;have b3s:=Be (Be (Be (hFs.GR b3.out (by decide) (fun f=>f))));have q1s:WS.cell? ⟨W.heap.size,1,none⟩=some (.int .i64 (tn:Int)):=(Bc (hFs.GR b3.out (by decide) (fun f=>f)) 1).trans rfl;have hol:=hok.l;have hC:=FB w WS.drew.drew.drew pr px vl vc vw vr pl _ _ _ 1 tn (hRs.keep (Bd (Bd (Bd (Below.refl _ _))))) (by dsimp only;omega);have FS:Cq w.heap.size Hp (L8 (.slice (some ⟨gd,0,none⟩) nd cd)) W WS.drew.drew.drew:=(FW.out.E3.trans (hFsM.mono (by simp))).drew.drew.drew;replace hC:=Az hC;replace FS:=Az FS;replace b3s:=Az b3s;clear hRs hFs hFsM hWS hol c1 q1 q0 q2 c3' ca fa;go_wp2_with fail
      refine hC.out.mono ?_;rintro e w2 ⟨rfl,ve2,hR2,hF2⟩;have b32:=hF2.GR b3s.out (by decide) (fun f=>f);replace hF2:=FS.out.trans (Cq.E3 (hF2.mono (Ts':=Hp) (by simp[Hp])));clear hC FS b3s;replace hR2:=Az (hR2.keep (Bd (Below.refl _ _)));replace hF2:=Az hF2.drew;replace b32:=Az (Be b32);go_upto_region 5 with fail
      have hS5:(fun W'=>W'.cell? ⟨W.heap.size,1,none⟩=some (.int .i64 (tn:Int))∧W'.cell? ⟨pr,0,none⟩=some (.pointer (some ⟨px,0,none⟩))) w2.drew:=⟨(Bc b32.out 1).trans rfl,(Bc hR2.out.br 0).trans rfl⟩
      refine Aw [] (S:=fun W'=>W'.cell? ⟨W.heap.size,1,none⟩=some (.int .i64 (tn:Int))∧W'.cell? ⟨pr,0,none⟩=some (.pointer (some ⟨px,0,none⟩))) (by kernel_rfl) hS5 (fun hS0=>?_);try simp only[Act.put,Sa,Sb,Sc]
      refine tY 0 (fun _=>hS0) ?_;refine tY 1 (fun _=>hS0) ?_;refine tL 2 (hS0) ?_;refine tY 3 (fun _=>hS0) ?_;refine tY 4 (fun _=>hS0) ?_;refine tY 5 (fun _=>hS0) ?_;refine tL 6 (hS0) ?_;refine tY 7 (fun _=>hS0) ?_;refine tL 8 (hS0) ?_;refine Ab (rs:=[9]) (by kernel_rfl) (by simp) ?_;refine Aa.cons (An rfl) (fun K hK=>?_) Aa.nil;rw[if_pos (by rfl)];go_wp2_with fail
      refine(IM w _ px vl vc vw vr pl (fun _=>False) r.x tn false hR2.out.x (by rw[hok.n];exact htl) (by rw[hok.n];exact hok.TU) hok.code hok.len).mono ?_;rintro e w3 ⟨vm,rfl,hm,hE3,hF3⟩;have hR3:=hR2.out.exec hE3 hF3;have b33:=hF3.GR b32.out (by decide) (fun f=>f);refine hK.out _ _ (fun _=>⟨(Bc b33 1).trans rfl,(Bc hR3.br 0).trans rfl⟩) (fun _=>?_);clear hK;try simp only[Act.put,Sa,Sb,Sc]
      refine Ab (rs:=[10]) (by kernel_rfl) (by simp) ?_;refine Aa.cons (An rfl) (fun K hK=>?_) Aa.nil;rw[if_pos (by rfl)];have hmk:=F7 r.x tn false hok.marks;have hol:=hok.l;have hon:=hok.TU;have hC:=GF w w3 pr px vl vc vw vr pl _ _ vm _ tn (r.x.begin tn false).2 hR3 (by simpa using htl) (by simpa using hon) hm hmk.1 hmk.2 (by have:=hmk.2;simp only[List.length_append,List.length_singleton];omega);replace hR3:=Az hR3;replace hC:=Az hC;replace hF3:=Az hF3;clear hm hE3 hmk hol hon;go_wp2_with fail
      refine hC.out.mono ?_;rintro e w4 ⟨rfl,ve4,hR4,hF4⟩;refine hK.out _ _ (fun _=>⟨(Bc (hF4.GR b33 (by decide) hgn.out) 1).trans rfl,(Bc hR4.br 0).trans rfl⟩) (fun _=>?_);clear hK;try simp only[Act.put,Sa,Sb,Sc]
      refine A4 (by kernel_rfl) ?_ _;replace hR4:=Az hR4;replace hF4:=Az hF4;go_wp2;refine bodyPost_end (fn:=Tryz.f41) (v:=.tuple #[]) (results_none rfl _ _ _) rfl ⟨rfl,ve4,?_,(hF2.out.trans (Cq.E3 (hF3.out.mono (by simp[Hp,Jz])))).trans (hF4.out.mono (by simp[Hp,Is]))⟩;rw[←hf.out,←hnd.out];exact hR4.out
     ·rw[if_neg (fun h=>a0 h.2),if_neg (fun h=>by cases h.1),if_neg (fun h=>h.1 rfl)]at hf;have x0:((av:Int)==0)=false:=Bq (by omega);replace hf:=Az hf;go_upto_region 2 with fail
      go_region
      go_upto_region 6 with fail
      go_region
      go_upto_region 10 with fail
      go_region
      go_wp2;exact bodyPost_end (fn:=Tryz.f41) (v:=.tuple #[]) (results_none rfl _ _ _) rfl (hdone.out _ (Bd (Bd (Bd (Bd (Below.refl _ _))))) hf.out.symm)
    ·rw[if_neg (fun h=>k1 h.1)]at hf;have y1:(kind==1)=false:=Bq k1;have z1:(kind != 1)=true:=bne_iff_ne.2 k1;by_cases k2:kind=2
     ·subst k2;by_cases a2:av=2
      ·rw[if_pos ⟨rfl,a2⟩]at hf;have ca':W1.cell? ⟨gd,tn,none⟩=some (.int .i64 2):=by rw[ca,a2];rfl
       clear ca a2 y1 z1 k1;have ca:=ca';clear ca';go_upto_region 2 with fail
       go_region
       go_upto_region 6 with fail
       go_region
       replace hf:=Az hf;have fa:=Bf (Bk hb1 hcs) tn;have hS3:W1.drew.drew.drew.drew.cell? ⟨pr,1,none⟩=some (.slice (some ⟨gd,0,none⟩) nd cd)∧W1.drew.drew.drew.drew.cell? ⟨W.heap.size,1,none⟩=some (.int .i64 (tn:Int)):=⟨c1,q1⟩
       go_upto_region 7 with fail
       refine Aw [7] (S:=fun W'=>W'.cell? ⟨pr,1,none⟩=some (.slice (some ⟨gd,0,none⟩) nd cd)∧W'.cell? ⟨W.heap.size,1,none⟩=some (.int .i64 (tn:Int))) (by kernel_rfl) hS3 (fun hS0=>?_);try simp only[Act.put,Sa,Sb,Sc]
       refine tY 0 (fun _=>hS0) ?_;refine tY 1 (fun _=>hS0) ?_;refine tY 2 (fun _=>hS0) ?_;refine tL 3 (hS0) ?_;refine tY 4 (fun _=>hS0) ?_;refine tL 5 (hS0) ?_;refine tY 6 (fun _=>hS0) ?_;refine Ab (rs:=[7]) (by kernel_rfl) (by simp) ?_;refine Aa.cons (An rfl) (fun K hK=>?_) Aa.nil;rw[if_pos (by rfl)];go_wp2_with fail
       refine hK.out _ _ (fun h=>by cases h) (fun _=>?_);clear hK hS0 hS3;try simp only[Act.put,Sa,Sb,Sc]
       refine A4 (by kernel_rfl) ?_ _;obtain⟨WS,hWS⟩:∃ X,W1.setCell ⟨gd,tn,none⟩ (.int .i64 3)=X:=⟨_,rfl⟩
       try rw[hWS]
       obtain⟨hRs,hFs,hFsM⟩:=hR1.out.J7 (v:=3) htl WS hWS.symm;have b3s:=Be (Be (Be (Be (hFs.GR b3.out (by decide) (fun f=>f)))));have q1s:WS.cell? ⟨W.heap.size,1,none⟩=some (.int .i64 (tn:Int)):=(Bc (hFs.GR b3.out (by decide) (fun f=>f)) 1).trans rfl;have hol:=hok.l;have hC:=FB w WS.drew.drew.drew.drew pr px vl vc vw vr pl _ _ _ 8 tn (hRs.keep (Bd (Bd (Bd (Bd (Below.refl _ _)))))) (by dsimp only;omega);have FS:Cq w.heap.size Hp (L8 (.slice (some ⟨gd,0,none⟩) nd cd)) W WS.drew.drew.drew.drew:=(FW.out.E3.trans (hFsM.mono (by simp))).drew.drew.drew.drew;replace hC:=Az hC;replace FS:=Az FS;replace b3s:=Az b3s;clear hRs hFs hFsM hWS hol c1 q1 q0 q2 c3' ca fa;go_wp2_with fail
       refine hC.out.mono ?_;rintro e w2 ⟨rfl,ve2,hR2,hF2⟩;have b32:=hF2.GR b3s.out (by decide) (fun f=>f);replace hF2:=FS.out.trans (Cq.E3 (hF2.mono (Ts':=Hp) (by simp[Hp])));clear hC FS b3s;replace hR2:=Az (hR2.keep (Bd (Below.refl _ _)));replace hF2:=Az hF2.drew;replace b32:=Az (Be b32);go_upto_region 9 with fail
       have hS5:(fun W'=>W'.cell? ⟨W.heap.size,1,none⟩=some (.int .i64 (tn:Int))∧W'.cell? ⟨pr,0,none⟩=some (.pointer (some ⟨px,0,none⟩))) w2.drew:=⟨(Bc b32.out 1).trans rfl,(Bc hR2.out.br 0).trans rfl⟩
       refine Aw [] (S:=fun W'=>W'.cell? ⟨W.heap.size,1,none⟩=some (.int .i64 (tn:Int))∧W'.cell? ⟨pr,0,none⟩=some (.pointer (some ⟨px,0,none⟩))) (by kernel_rfl) hS5 (fun hS0=>?_);try simp only[Act.put,Sa,Sb,Sc]
       refine tY 0 (fun _=>hS0) ?_;refine tY 1 (fun _=>hS0) ?_;refine tL 2 (hS0) ?_;refine tY 3 (fun _=>hS0) ?_;refine tY 4 (fun _=>hS0) ?_;refine tY 5 (fun _=>hS0) ?_;refine tL 6 (hS0) ?_;refine tY 7 (fun _=>hS0) ?_;refine tL 8 (hS0) ?_;refine Ab (rs:=[9]) (by kernel_rfl) (by simp) ?_;refine Aa.cons (An rfl) (fun K hK=>?_) Aa.nil;rw[if_pos (by rfl)];go_wp2_with fail
       refine(IM w _ px vl vc vw vr pl (fun _=>False) r.x tn true hR2.out.x (by rw[hok.n];exact htl) (by rw[hok.n];exact hok.TU) hok.code hok.len).mono ?_;rintro e w3 ⟨vm,rfl,hm,hE3,hF3⟩;have hR3:=hR2.out.exec hE3 hF3;have b33:=hF3.GR b32.out (by decide) (fun f=>f);refine hK.out _ _ (fun _=>⟨(Bc b33 1).trans rfl,(Bc hR3.br 0).trans rfl⟩) (fun _=>?_);clear hK;try simp only[Act.put,Sa,Sb,Sc]
       refine Ab (rs:=[10]) (by kernel_rfl) (by simp) ?_;refine Aa.cons (An rfl) (fun K hK=>?_) Aa.nil;rw[if_pos (by rfl)];have hmk:=F7 r.x tn true hok.marks;have hol:=hok.l;have hon:=hok.TU;have hC:=GF w w3 pr px vl vc vw vr pl _ _ vm _ tn (r.x.begin tn true).2 hR3 (by simpa using htl) (by simpa using hon) hm hmk.1 hmk.2 (by have:=hmk.2;simp only[List.length_append,List.length_singleton];omega);replace hR3:=Az hR3;replace hC:=Az hC;replace hF3:=Az hF3;clear hm hE3 hmk hol hon;go_wp2_with fail
       refine hC.out.mono ?_;rintro e w4 ⟨rfl,ve4,hR4,hF4⟩;refine hK.out _ _ (fun _=>⟨(Bc (hF4.GR b33 (by decide) hgn.out) 1).trans rfl,(Bc hR4.br 0).trans rfl⟩) (fun _=>?_);clear hK;try simp only[Act.put,Sa,Sb,Sc]
       refine A4 (by kernel_rfl) ?_ _;replace hR4:=Az hR4;replace hF4:=Az hF4;go_wp2;refine bodyPost_end (fn:=Tryz.f41) (v:=.tuple #[]) (results_none rfl _ _ _) rfl ⟨rfl,ve4,?_,(hF2.out.trans (Cq.E3 (hF3.out.mono (by simp[Hp,Jz])))).trans (hF4.out.mono (by simp[Hp,Is]))⟩;rw[←hf.out,←hnd.out];exact hR4.out
      ·rw[if_neg (fun h=>a2 h.2),if_neg (fun h=>h.2.1 rfl)]at hf;have x0:((av:Int)==2)=false:=Bq (by omega);clear y1 z1 k1;replace hf:=Az hf;go_upto_region 2 with fail
       go_region
       go_upto_region 6 with fail
       go_region
       go_upto_region 10 with fail
       go_region
       go_wp2;exact bodyPost_end (fn:=Tryz.f41) (v:=.tuple #[]) (results_none rfl _ _ _) rfl (hdone.out _ (Bd (Bd (Bd (Bd (Below.refl _ _))))) hf.out.symm)
     ·rw[if_neg (fun h=>k2 h.1)]at hf;have y2:(kind==2)=false:=Bq k2;have z2:(kind != 2)=true:=bne_iff_ne.2 k2;by_cases a1:av=1∨av=3
      ·rw[if_pos ⟨k1,k2,a1⟩]at hf;replace hf:=Az hf;obtain⟨b1,x1,x3⟩:∃ b:Bool,((av:Int)==1)=b∧(b=false→((av:Int)==3)=true):=by
        rcases a1 with rfl |rfl
        ·exact⟨true,rfl,fun h=>by cases h⟩
        ·exact⟨false,rfl,fun _=>rfl⟩
       clear k1 k2 a1;go_upto_region 2 with fail
       go_region
       go_upto_region 6 with fail
       go_region
       have hR2:=hR1.out.keep (Bd (Bd (Bd (Bd (Below.refl _ _)))));have hF2:Cq w.heap.size Hp (L8 (.slice (some ⟨gd,0,none⟩) nd cd)) W _:=Cq.E3 (FW.out.drew.drew.drew.drew);have b32:=Be (Be (Be (Be (b3.out))));cases b1 with
       |true =>
        clear x3;go_upto_region 10 with fail
        go_region
        have hX:=fun(W1:World) (hE:Dp w W1 px vl vc vw vr pl r.x)=>Kf w W1 px vl vc vw vr pl (fun _=>False) r.x tn late hE (by rw[hok.n];exact htl) (by rw[hok.n];exact hok.TU) hok.code hok.len hok.cells hok.words hok.no
        have hmk0:=Ia r.x tn (decide (late≠0)) hok.marks;replace hf:=hf.out;obtain⟨so,hso⟩:∃ y,r.x.step tn (decide (late≠0))=y:=⟨_,rfl⟩
        rw[hso]at hf hmk0;simp only[hso]at hX;replace hX:=Az hX;replace hmk0:=Az hmk0;replace hf:=Az hf;clear hso;replace hR2:=Az (hR2.keep (Bd (Below.refl _ _)));replace hF2:=Az hF2.drew;replace b32:=Az (Be b32);go_upto_region 11 with fail
        have hS5:(fun W'=>W'.cell? ⟨W.heap.size,1,none⟩=some (.int .i64 (tn:Int))∧W'.cell? ⟨W.heap.size,2,none⟩=some (.int .i64 late)∧W'.cell? ⟨pr,0,none⟩=some (.pointer (some ⟨px,0,none⟩))) W1.drew.drew.drew.drew.drew:=⟨(Bc b32.out 1).trans rfl,(Bc b32.out 2).trans rfl,(Bc hR2.out.br 0).trans rfl⟩
        refine Aw [] (S:=fun W'=>W'.cell? ⟨W.heap.size,1,none⟩=some (.int .i64 (tn:Int))∧W'.cell? ⟨W.heap.size,2,none⟩=some (.int .i64 late)∧W'.cell? ⟨pr,0,none⟩=some (.pointer (some ⟨px,0,none⟩))) (by kernel_rfl) hS5 (fun hS0=>?_);try simp only[Act.put,Sa,Sb,Sc]
        refine tY 0 (fun _=>hS0) ?_;refine tY 1 (fun _=>hS0) ?_;refine tL 2 (hS0) ?_;refine tY 3 (fun _=>hS0) ?_;refine tY 4 (fun _=>hS0) ?_;refine tY 5 (fun _=>hS0) ?_;refine tL 6 (hS0) ?_;refine tY 7 (fun _=>hS0) ?_;refine tL 8 (hS0) ?_;refine tY 9 (fun _=>hS0) ?_;refine tL 10 (hS0) ?_;refine Ab (rs:=[11]) (by kernel_rfl) (by simp) ?_;refine Aa.cons (An rfl) (fun K hK=>?_) Aa.nil;rw[if_pos (by rfl)];go_wp2_with fail
        refine(hX.out _ hR2.out.x).mono ?_;rintro e w3 ⟨vm,rfl,hm,hE3,hF3⟩;have hR3:=hR2.out.exec hE3 hF3;have b33:=hF3.GR b32.out (by decide) (fun f=>f);refine hK.out _ _ (fun _=>⟨(Bc b33 1).trans rfl,(Bc b33 2).trans rfl,(Bc hR3.br 0).trans rfl⟩) (fun _=>?_);clear hK;try simp only[Act.put,Sa,Sb,Sc]
        refine Ab (rs:=[12]) (by kernel_rfl) (by simp) ?_;refine Aa.cons (An rfl) (fun K hK=>?_) Aa.nil;rw[if_pos (by rfl)];have hmk:=hmk0.out;have hol:=hok.l;have hon:=hok.TU;have hC:=GF w w3 pr px vl vc vw vr pl _ _ vm _ tn so.2 hR3 (by simpa using htl) (by simpa using hon) hm hmk.1 hmk.2 (by have:=hmk.2;dsimp only;omega);replace hR3:=Az hR3;replace hC:=Az hC;replace hF3:=Az hF3;clear hm hE3 hmk hol hon;go_wp2_with fail
        refine hC.out.mono ?_;rintro e w4 ⟨rfl,ve4,hR4,hF4⟩;refine hK.out _ _ (fun _=>⟨(Bc (hF4.GR b33 (by decide) hgn.out) 1).trans rfl,(Bc (hF4.GR b33 (by decide) hgn.out) 2).trans rfl,(Bc hR4.br 0).trans rfl⟩) (fun _=>?_);clear hK;try simp only[Act.put,Sa,Sb,Sc]
        refine A4 (by kernel_rfl) ?_ _;replace hR4:=Az hR4;replace hF4:=Az hF4;go_wp2;refine bodyPost_end (fn:=Tryz.f41) (v:=.tuple #[]) (results_none rfl _ _ _) rfl ⟨rfl,ve4,?_,(hF2.out.trans (Cq.E3 (hF3.out.mono (by simp[Hp,Jz])))).trans (hF4.out.mono (by simp[Hp,Is]))⟩;rw[←hf.out,←hnd.out];exact hR4.out
       |false =>
        replace x3:=x3 rfl;go_upto_region 10 with fail
        go_region
        have hX:=fun(W1:World) (hE:Dp w W1 px vl vc vw vr pl r.x)=>Kf w W1 px vl vc vw vr pl (fun _=>False) r.x tn late hE (by rw[hok.n];exact htl) (by rw[hok.n];exact hok.TU) hok.code hok.len hok.cells hok.words hok.no
        have hmk0:=Ia r.x tn (decide (late≠0)) hok.marks;replace hf:=hf.out;obtain⟨so,hso⟩:∃ y,r.x.step tn (decide (late≠0))=y:=⟨_,rfl⟩
        rw[hso]at hf hmk0;simp only[hso]at hX;replace hX:=Az hX;replace hmk0:=Az hmk0;replace hf:=Az hf;clear hso;replace hR2:=Az (hR2.keep (Bd (Below.refl _ _)));replace hF2:=Az hF2.drew;replace b32:=Az (Be b32);go_upto_region 11 with fail
        have hS5:(fun W'=>W'.cell? ⟨W.heap.size,1,none⟩=some (.int .i64 (tn:Int))∧W'.cell? ⟨W.heap.size,2,none⟩=some (.int .i64 late)∧W'.cell? ⟨pr,0,none⟩=some (.pointer (some ⟨px,0,none⟩))) W1.drew.drew.drew.drew.drew:=⟨(Bc b32.out 1).trans rfl,(Bc b32.out 2).trans rfl,(Bc hR2.out.br 0).trans rfl⟩
        refine Aw [] (S:=fun W'=>W'.cell? ⟨W.heap.size,1,none⟩=some (.int .i64 (tn:Int))∧W'.cell? ⟨W.heap.size,2,none⟩=some (.int .i64 late)∧W'.cell? ⟨pr,0,none⟩=some (.pointer (some ⟨px,0,none⟩))) (by kernel_rfl) hS5 (fun hS0=>?_);try simp only[Act.put,Sa,Sb,Sc]
        refine tY 0 (fun _=>hS0) ?_;refine tY 1 (fun _=>hS0) ?_;refine tL 2 (hS0) ?_;refine tY 3 (fun _=>hS0) ?_;refine tY 4 (fun _=>hS0) ?_;refine tY 5 (fun _=>hS0) ?_;refine tL 6 (hS0) ?_;refine tY 7 (fun _=>hS0) ?_;refine tL 8 (hS0) ?_;refine tY 9 (fun _=>hS0) ?_;refine tL 10 (hS0) ?_;refine Ab (rs:=[11]) (by kernel_rfl) (by simp) ?_;refine Aa.cons (An rfl) (fun K hK=>?_) Aa.nil;rw[if_pos (by rfl)];go_wp2_with fail
        refine(hX.out _ hR2.out.x).mono ?_;rintro e w3 ⟨vm,rfl,hm,hE3,hF3⟩;have hR3:=hR2.out.exec hE3 hF3;have b33:=hF3.GR b32.out (by decide) (fun f=>f);refine hK.out _ _ (fun _=>⟨(Bc b33 1).trans rfl,(Bc b33 2).trans rfl,(Bc hR3.br 0).trans rfl⟩) (fun _=>?_);clear hK;try simp only[Act.put,Sa,Sb,Sc]
        refine Ab (rs:=[12]) (by kernel_rfl) (by simp) ?_;refine Aa.cons (An rfl) (fun K hK=>?_) Aa.nil;rw[if_pos (by rfl)];have hmk:=hmk0.out;have hol:=hok.l;have hon:=hok.TU;have hC:=GF w w3 pr px vl vc vw vr pl _ _ vm _ tn so.2 hR3 (by simpa using htl) (by simpa using hon) hm hmk.1 hmk.2 (by have:=hmk.2;dsimp only;omega);replace hR3:=Az hR3;replace hC:=Az hC;replace hF3:=Az hF3;clear hm hE3 hmk hol hon;go_wp2_with fail
        refine hC.out.mono ?_;rintro e w4 ⟨rfl,ve4,hR4,hF4⟩;refine hK.out _ _ (fun _=>⟨(Bc (hF4.GR b33 (by decide) hgn.out) 1).trans rfl,(Bc (hF4.GR b33 (by decide) hgn.out) 2).trans rfl,(Bc hR4.br 0).trans rfl⟩) (fun _=>?_);clear hK;try simp only[Act.put,Sa,Sb,Sc]
        refine A4 (by kernel_rfl) ?_ _;replace hR4:=Az hR4;replace hF4:=Az hF4;go_wp2;refine bodyPost_end (fn:=Tryz.f41) (v:=.tuple #[]) (results_none rfl _ _ _) rfl ⟨rfl,ve4,?_,(hF2.out.trans (Cq.E3 (hF3.out.mono (by simp[Hp,Jz])))).trans (hF4.out.mono (by simp[Hp,Is]))⟩;rw[←hf.out,←hnd.out];exact hR4.out
      ·rw[if_neg (fun h=>a1 h.2.2)]at hf;have x1:((av:Int)==1)=false:=Bq (by omega);have x3:((av:Int)==3)=false:=Bq (by omega);clear k1 k2 a1;replace hf:=Az hf;go_upto_region 2 with fail
       go_region
       go_upto_region 6 with fail
       go_region
       go_upto_region 10 with fail
       go_region
       go_wp2;exact bodyPost_end (fn:=Tryz.f41) (v:=.tuple #[]) (results_none rfl _ _ _) rfl (hdone.out _ (Bd (Bd (Bd (Bd (Below.refl _ _))))) hf.out.symm)
end
section
structure DN (x y:AG):Prop where
 pg:y.pg=x.pg
 cells:y.cells=x.cells
 words:y.words.length=x.words.length
 AP:y.AP.length=x.AP.length
theorem DN.refl(x:AG):DN x x:=⟨rfl,rfl,rfl,rfl⟩
theorem DN.trans{x y z:AG}(h:DN x y)(k:DN y z):DN x z:=⟨k.pg.trans h.pg,k.cells.trans h.cells,k.words.trans h.words,k.AP.trans h.AP⟩
theorem Ry(x:AG)(t:Nat)(c:CoreM)(a:Int)(w:Nat):DN x (x.go t c a w).1:=⟨rfl,rfl,rfl,by simp[AG.go]⟩
theorem KP(x:AG)(t:Nat)(u:Bool):DN x (x.begin t u).1:=Ry x t _ _ _
theorem Sy(x:AG)(t:Nat)(late:Bool):DN x (x.step t late).1:=by
 unfold AG.step;dsimp only;split
 ·exact DN.refl x
 split
 ·exact DN.refl x
 split
 ·exact⟨rfl,rfl,rfl,by simp[AG.go]⟩
 split
 ·split
  ·exact DN.refl x
  ·exact⟨rfl,rfl,rfl,by simp[AG.go]⟩
 split
 ·exact DN.refl x
 ·rename_i a _
  generalize HE (x.pg.l.getD (x.core t).pc.toNat In.zero) (x.core t) (x.words.getD a 0) late=r;have h1:DN x (match r.1 with |none=>x |some v=>{x with words:=x.words.set a v}):=by
   cases r.1 with
   |none=>exact DN.refl x
   |some v=>exact⟨rfl,rfl,by simp,rfl⟩
  split
  ·exact h1.trans ⟨rfl,rfl,rfl,List.length_set ..⟩
  ·exact h1.trans (Ry _ _ _ _ _)
structure TT (r q:AQ) (n:Nat):Prop where
 x:DN r.x q.x
 act:q.act.length=r.act.length
 l:q.l.length≤r.l.length+n
theorem Ji(r:AQ)(t:Nat)(o:Ex)(h:o.marks.length≤300):TT r (r.EK t o) 301:=by
 unfold AQ.EK;dsimp only;split
 ·exact⟨DN.refl _,rfl,by simp;omega⟩
 ·split
  ·exact⟨DN.refl _,rfl,by simp;omega⟩
  ·exact⟨DN.refl _,by simp,by simp;omega⟩
theorem Gs(r:AQ)(kind t late:Int)(hm:Mo r.x.pg.l):TT r (r.op kind t late) 302:=by
 unfold AQ.op;split
 ·exact⟨DN.refl _,rfl,by omega⟩
 split
 ·have h:=Ji {r with x:=(r.x.begin t.toNat false).1,act:=r.act.set t.toNat 1,l:=r.l++[(1,t.toNat)]} t.toNat (r.x.begin t.toNat false).2 (F7 r.x _ _ hm).2;have hl:=h.l;exact⟨(KP _ _ _).trans h.x,h.act.trans (by simp),by simp at hl;omega⟩
 split
 ·have h:=Ji {r with x:=(r.x.begin t.toNat true).1,act:=r.act.set t.toNat 3,l:=r.l++[(8,t.toNat)]} t.toNat (r.x.begin t.toNat true).2 (F7 r.x _ _ hm).2;have hl:=h.l;exact⟨(KP _ _ _).trans h.x,h.act.trans (by simp),by simp at hl;omega⟩
 split
 ·have h:=Ji {r with x:=(r.x.step t.toNat (decide (late≠0))).1} t.toNat (r.x.step t.toNat (decide (late≠0))).2 (Ia r.x _ _ hm).2;have hl:=h.l;exact⟨(Sy _ _ _).trans h.x,h.act,Nat.le_trans hl (Nat.add_le_add_left (by decide) _)⟩
 ·exact⟨DN.refl _,rfl,by omega⟩
structure DJ (r:AQ):Prop where
 n:r.x.AP.length=r.act.length
 TU:r.act.length≤64
 n1:0<r.act.length
 code:∀ i∈r.x.pg.l,Ib i
 len:r.x.pg.l.length≤64
 cells:r.x.cells.length≤10000
 words:r.x.words.length=r.x.cells.length
 no:∀ i∈r.x.pg.l,i.op≠22∧i.op≠23∧i.op≤23
 marks:Mo r.x.pg.l
theorem DJ.ok{r:AQ}(h:DJ r)(hl:r.l.length≤80000000):Mp r:=⟨h.n,h.TU,h.n1,h.code,h.len,h.cells,h.words,h.no,h.marks,hl⟩
theorem DJ.same{r q:AQ}{n:Nat}(h:DJ r)(s:TT r q n):DJ q:=by
 obtain⟨⟨p,c,w,k⟩,a,_⟩:=s;refine⟨by rw[k,a];exact h.n,by rw[a];exact h.TU,by rw[a];exact h.n1,by rw[p];exact h.code,by rw[p];exact h.len,by rw[c];exact h.cells,by rw[w,c];exact h.words,by rw[p];exact h.no,by rw[p];exact h.marks⟩
theorem DJ.op{r:AQ}(h:DJ r)(kind t late:Int):DJ (r.op kind t late):=h.same (Gs r kind t late h.marks)
theorem DJ.ops:∀ (l:List (Int×Int×Int)) (r:AQ),DJ r→DJ (r.ops l)∧(r.ops l).l.length≤r.l.length+302*l.length
 |[],r,h=>⟨h,by simp[AQ.ops]⟩
 |o::l,r,h=>by
  obtain⟨h1,h2⟩:=DJ.ops l (r.op o.1 o.2.1 o.2.2) (h.op _ _ _);have h3:=(Gs r o.1 o.2.1 o.2.2 h.marks).l;refine⟨h1,?_⟩
  show((r.op o.1 o.2.1 o.2.2).ops l).l.length≤_
  rw[List.length_cons];omega
theorem DJ.new{pg:Pg}{ss is rs:List Nat}{n:Nat}(h1:1≤n)(h2:n≤64)(hc:∀ i∈pg.l,Ib i)(hl:pg.l.length≤64)(hs:ss.sum≤8192)(hi:ss.sum=is.length)(hr:rs.length=n)
  (hno:∀ i∈pg.l,i.op≠22∧i.op≠23∧i.op≤23)(hm:Mo pg.l):DJ (AQ.new (AG.new pg ss is n 0 rs) n):=by
 have hcl:∀ (l:List Nat) (k:Nat),(B9 k l).length=l.sum:=by
  intro l;induction l with
  |nil=>intro k;rfl
  |cons x l ih=>intro k;simp[B9,ih]
 refine⟨by simp[AQ.new,AG.new,hr],by simpa [AQ.new]using h2,by simp[AQ.new];omega,hc,hl,?_,?_,hno,hm⟩
 ·show(AL ss).length≤_
  unfold AL;rw[hcl];omega
 ·show is.length=(AL ss).length
  unfold AL;rw[hcl];exact hi.symm
end
section
open Go.RowKit Go.Proofs.YtjjpiefgdggghaaGreatDoorW.PrintWords
theorem P4{r:AQ}{l:List (Int×Int×Int)}{k:Nat}(h:k<l.length):r.ops (l.take (k+1))=(r.ops (l.take k)).op (l.getD k (0,0,0)).1 (l.getD k (0,0,0)).2.1 (l.getD k (0,0,0)).2.2:=by
 rw[List.take_succ_eq_append_getElem h,List.getD_eq_getElem?_getD,List.getElem?_eq_getElem h];unfold AQ.ops;rw[List.foldl_append];rfl
structure Kq (pg:Pg) (ss is rs:List Nat) (n:Nat):Prop where
 h8:ss.length≤8
 hle:∀ s∈ss,s≤4096
 DD:ss.sum≤8192
 h1:1≤n
 h2:n≤64
 Jo:ss.sum=is.length
 OM:0<is.length
 Jg:rs.length=n
 R3:∀ v∈is,v<4294967296
 Uj:∀ v∈rs,v<4294967296
 pk:WA pg
 code:∀ i∈pg.l,Ib i
 no:∀ i∈pg.l,i.op≠22∧i.op≠23∧i.op≤23
 mks:Mo pg.l
theorem Kq.fit{pg:Pg}{ss is rs:List Nat}{n:Nat}(h:Kq pg ss is rs n):DJ (AQ.new (AG.new pg ss is n 0 rs) n):=DJ.new h.h1 h.h2 h.code h.pk.l1 h.DD h.Jo h.Jg h.no h.mks
structure De (W:World) (vl vs vi vr:Value) (pg:Pg) (ss is rs:List Nat):Prop where
 l:Cg W vl pg.l.length (By pg.l)
 s:Cg W vs ss.length (ss.map fun s:Nat=>Value.int .i64 (s:Int))
 i:Cg W vi is.length (is.map fun v:Nat=>Value.int .u32 v)
 r:Cg W vr rs.length (rs.map fun v:Nat=>Value.int .u32 v)
theorem De.keep{W W1:World}{vl vs vi vr:Value}{pg:Pg}{ss is rs:List Nat}(h:De W vl vs vi vr pg ss is rs)(hb:Below W.heap.size W W1):De W1 vl vs vi vr pg ss is rs:=⟨h.l.keep hb,h.s.keep hb,h.i.keep hb,h.r.keep hb⟩
theorem De.beg{W:World}{vl vs vi vr:Value}{pg:Pg}{ss is rs:List Nat}{n:Nat}(h:De W vl vs vi vr pg ss is rs)(k:Kq pg ss is rs n) :
  Calls Tryz.prog 40 #[.agg #[vl,.int .i64 pg.lock,.int .i64 pg.unlock,vs,vi,.int .i64 0,vr],.int .i64 (n:Int)] W fun e W'=>∃ pr px vc vw vo pl vd,e=.returned (.pointer (some ⟨pr,0,none⟩))∧CZ W W' pr px vl vc vw vo pl vd (.slice none 0 0) (AQ.new (AG.new pg ss is n 0 rs) n) :=
 M6 W vl vs vi vr pg ss is rs n h.l h.s h.i h.r k.h8 k.hle k.DD k.h1 k.h2 k.OM (by have:=k.DD;have:=k.Jo;omega) (by have:=k.Jg;have:=k.h2;omega) k.R3 k.Uj
def K6(W:World)(A:Option Addr)(l:List (Int×Int×Int)):Prop :=
 0<l.length→∃ ad:Addr,A=some ad∧∀ j,j<l.length→W.cell? (ad.add (j*3))=some (.int .i64 (l.getD j (0,0,0)).1)∧W.cell? ⟨(ad.add (j*3)).block,(ad.add (j*3)).off+1,none⟩=some (.int .i64 (l.getD j (0,0,0)).2.1)∧W.cell? ⟨(ad.add (j*3)).block,(ad.add (j*3)).off+2,none⟩=some (.int .i64 (l.getD j (0,0,0)).2.2)
theorem K6.keep{W W1:World}{A:Option Addr}{l:List (Int×Int×Int)}(h:K6 W A l)(hb:Below W.heap.size W W1):K6 W1 A l:=fun hp=>by
 obtain⟨ad,rfl,hc⟩:=h hp;exact⟨ad,rfl,fun j hj=>⟨Ck hb (hc j hj).1,Ck hb (hc j hj).2.1,Ck hb (hc j hj).2.2⟩⟩
end
section
open Go Go.ChangeShapes Go.WideShapes Go.Deep Go.RowKit
set_option maxRecDepth 100000
theorem MN{H:Type}{enc:TypeId×Value→H}{W:World}{base:Nat}{sp:Nat→Bool}{held:Bool}{fuel:Nat}{cs:List Value}{x:DataW H×List MemPlace}(h:DataW.trod enc Tryz.prog W base sp held fuel 22 cs=some x) :
  ∃ A m c l,cs=[.slice A m c]∧l.length=m∧K6 W A l:=by
 rcases open_slice Tryz.underlying22 h with ⟨rfl,_⟩ |⟨a,len,cap,m,n,D,Pl,rfl,hb,hl,hm,hmm,hx,hi⟩
 ·exact⟨none,0,0,[],rfl,rfl,fun h=>absurd h (by simp)⟩
 have c3:Tryz.prog.cellsOf 85=3:=by kernel_rfl
 have c1:Tryz.prog.cellsOf 3=1:=by kernel_rfl
 have each:∀ i,i<len→∃ q:Int×Int×Int,W.cell? (a.add (i*3))=some (.int .i64 q.1)∧W.cell? ⟨(a.add (i*3)).block,(a.add (i*3)).off+1,none⟩=some (.int .i64 q.2.1)∧W.cell? ⟨(a.add (i*3)).block,(a.add (i*3)).off+2,none⟩=some (.int .i64 q.2.2):=by
  intro i Jo;obtain⟨cs',h1,h2⟩:=hi i (by rw[hmm];split<;>omega);rw[c3]at h1;obtain⟨_,hlen,hcell⟩:=World.cells?_some h1;obtain⟨xs,k,_,_,_,hxl,hf⟩:=DataW.trod_struct Tryz.underlying85 h2
  match xs,hxl,cs',hlen with
  |[y0,y1,y2],_,[v0,v1,v2],_ =>
   have g0:=hf 0 _ rfl;have g1:=hf 1 _ rfl;have g2:=hf 2 _ rfl;simp[c1]at g0 g1 g2;have e0:=hcell 0 (by omega);have e1:=hcell 1 (by omega);have e2:=hcell 2 (by omega);obtain⟨x0,e3,_,_⟩:=DataW.trod_int Tryz.underlying3 g0;obtain⟨x1,e4,_,_⟩:=DataW.trod_int Tryz.underlying3 g1;obtain⟨x2,e5,_,_⟩:=DataW.trod_int Tryz.underlying3 g2;cases e3;cases e4;cases e5;have z0:∀ b:Addr,b.add 0=b:=fun b=>by simp[Addr.add]
   have z1:∀ b:Addr,b.add 1=⟨b.block,b.off+1,none⟩:=fun b=>by simp[Addr.add]
   have z2:∀ b:Addr,b.add 2=⟨b.block,b.off+2,none⟩:=fun b=>by simp[Addr.add]
   rw[z0]at e0;rw[z1]at e1;rw[z2]at e2;exact⟨(x0,x1,x2),e0,e1,e2⟩
 obtain⟨q,hq⟩:=choose_lt each;refine⟨some a,len,cap,(List.range len).map q,rfl,by simp,fun _=>⟨a,rfl,fun j hj=>?_⟩⟩;have hj':j<len:=by simpa using hj
 have e:((List.range len).map q).getD j (0,0,0)=q j:=by simp[List.getD_eq_getElem?_getD,hj']
 rw[e];exact hq j hj'
theorem En{H:Type}{enc:TypeId×Value→H}{W:World}{base b0:Nat}{r:Reach}{sp:Nat→Bool}{held:Bool}{v:Value}{d:DataW H}{p:List MemPlace}(hv:Value.okWide Tryz.prog W r b0 22 v)(h:DataW.Trod enc Tryz.prog W base sp held 22 v d p) :
  ∃ A m c l,v=.slice A m c∧l.length=m∧K6 W A l:=by
 obtain⟨fuel,hf⟩:=h;obtain⟨A,m,c,l,h1,h2,h3⟩:=MN hf;obtain⟨A',m',c',rfl⟩:=okWide_slice Tryz.underlying22 hv;simp[Value.cells]at h1;obtain⟨rfl,rfl,rfl⟩:=h1;exact⟨A',m',c',l,rfl,h2,h3⟩
theorem R0:laidOutB Tryz.prog=true:=by kernel_rfl
theorem Oc:Tryz.prog.readableRec 22=true:=by kernel_rfl
theorem Xh:22<Tryz.prog.types.size:=of_decide_eq_true (by kernel_rfl)
theorem DH{H:Type}{enc:TypeId×Value→H}{W W':World}{v:Value}{d:DataW H}{p:List MemPlace}(h:DataW.Trod enc Tryz.prog W 0 (fun _=>true) true 22 v d p)(hb:Below W.heap.size W W')(hlt:∀ x∈p,x.block<W.heap.size) :
 DataW.Trod enc Tryz.prog W' 0 (fun b=>decide (b<W.heap.size)) true 22 v d p:=Below.trod R0 Oc Xh h hb hlt
end
section
open Go.RowKit Go.Proofs.YtjjpiefgdggghaaGreatDoorW.PrintWords
def EC.TR(v:EC)(t:Nat):EC :=
 if v.r.act.getD t 0=0∧v.left.getD t 0 > 0 then {v with left:=v.left.set t (v.left.getD t 0-1),r:=v.r.op 1 t 0}
 else if v.r.act.getD t 0=2 then {v with EV:=v.EV+1,r:=v.r.op 2 t 0}
 else {v with r:=v.r.op 3 t 0}
theorem EC.VG(v:EC)(t:Nat):v.EH t={v.TR t with busy:=(v.TR t).busy||decide ((v.TR t).r.act.getD t 0≠0)||decide ((v.TR t).left.getD t 0 > 0)}:=rfl
structure HG (v:EC) (n m:Nat):Prop where
 fit:DJ v.r
 act:v.r.act.length=n
 left:v.left.length=n
 l:v.r.l.length≤302*m
 EV:v.EV≤m
 lb:∀ t,v.left.getD t 0≤1000
theorem HG.TR{v:EC}{n m:Nat}(h:HG v n m)(t:Nat):HG (v.TR t) n (m+1):=by
 have hg:=h.EV;have hl:=h.l;unfold EC.TR;split
 ·have s:=Gs v.r 1 t 0 h.fit.marks;have:=s.l;exact⟨h.fit.same s,s.act.trans h.act,by simpa using h.left,by dsimp only;omega,by dsimp only;omega,fun u=>by
   have h1:=h.lb u;have h2:=h.lb t;by_cases e:u=t
   ·subst e;by_cases hu:u<v.left.length
    ·show lf (v.left.set u (v.left.getD u 0-1)) u≤1000
     rw[Yf hu];omega
    ·show(v.left.set u (v.left.getD u 0-1)).getD u 0≤1000
     rw[List.getD_eq_getElem?_getD,List.getElem?_eq_none (by simp;omega)];simp
   ·show lf (v.left.set t (v.left.getD t 0-1)) u≤1000
    rw[VH e];exact h1⟩
 ·split
  ·have s:=Gs v.r 2 t 0 h.fit.marks;have:=s.l;exact⟨h.fit.same s,s.act.trans h.act,h.left,by dsimp only;omega,by dsimp only;omega,h.lb⟩
  ·have s:=Gs v.r 3 t 0 h.fit.marks;have:=s.l;exact⟨h.fit.same s,s.act.trans h.act,h.left,by dsimp only;omega,by dsimp only;omega,h.lb⟩
theorem HG.EH{v:EC}{n m:Nat}(h:HG v n m)(t:Nat):HG (v.EH t) n (m+1):=by
 have:=h.TR t;rw[EC.VG];exact⟨this.fit,this.act,this.left,this.l,this.EV,this.lb⟩
section
variable {w W W1:World} {pr px:Nat} {vl vc vw vr vd ve:Value} {pl:Option Addr} {r:AQ}
theorem CZ.far(h:CZ w W pr px vl vc vw vr pl vd ve r){gl j:Nat}{cs:Array Value}(hl:W.heap[gl]?=some (.cells cs 3 (0,0)))(hw:w.heap.size≤gl)(hne:¬L8 vd gl)(v:Value):CZ w (W.setCell ⟨gl,j,none⟩ v) pr px vl vc vw vr pl vd ve r:=by
 obtain⟨acc,hbx⟩:=h.x.bx;have far:∀ k,k≠gl→(W.setCell ⟨gl,j,none⟩ v).heap[k]?=W.heap[k]?:=fun k hk=>Below.heap_setCell W ⟨gl,j,none⟩ v k hk
 refine⟨⟨h.x.b.setCell (p:=⟨gl,j,none⟩) hw v,h.x.Ms,⟨acc,(far _ (CU hbx hl (by decide))).trans hbx⟩,h.x.code,Rs h.x.cells hl (by decide) j v,Rs h.x.words hl (by decide) j v,Rs h.x.AP hl (by decide) j v,h.x.ok,h.x.Wg⟩,
  h.Jh,(far _ (CU h.br hl (by decide))).trans h.br,Om h.act (fun k hk=>far k (fun e=>hne (by rw[←e];exact hk))),Rs h.l hl (by decide) j v⟩
theorem Gc{N g n c k:Nat}{L:List Nat}(h:Cc W N (.slice (some ⟨g,0,none⟩) n c) L)(hL:L.length=n)(hk:k<n) :
  N≤g∧(∃ cs,W.heap[g]?=some (.cells cs 3 (0,0)))∧W.cell? ⟨g,k,none⟩=some (.int .i64 ((L.getD k 0:Nat):Int)):=by
 subst hL;obtain⟨g',c',hv,_,hg,⟨cs,hcs,_⟩,hc⟩:=CO h (by omega);have e:g=g':=by injection hv with h1 _ _;injection h1 with h1;injection h1
 subst e;exact⟨hg,⟨cs,hcs⟩,hc k _ (by simp[List.getD_eq_getElem?_getD,List.getElem?_eq_getElem hk])⟩
theorem Cc.keep{N:Nat}{v:Value}{L:List Nat}(h:Cc W N v L)(hb:Below W.heap.size W W1):Cc W1 N v L:=Om h (fun k hk=>hb.block k (Ol h k hk))
end
def YW(v:Int):Bool:=decide (0≤v)&&decide (v<8)
def inB(p:Nat)(i:In):Bool :=
 (decide (i.op=1)||decide (i.op=2)||decide (i.op=3)||decide (i.op=8)||decide (i.op=9)||decide (i.op=10)||decide (i.op=11)||decide (i.op=12)||decide (i.op=13)||decide (16≤i.op)) &&
 (YW i.d&&YW i.s&&YW i.t&&YW i.u)&&(decide (0≤i.k)&&decide (i.k<4294967296))&&(decide (i.op≠22)&&decide (i.op≠23)&&decide (i.op≤23))&&(decide (i.op≠12)||(decide (0≤i.k)&&decide (i.k<5)))&&AN i p
def XL(pg:Pg):Bool :=
 decide (0<pg.l.length)&&decide (pg.l.length≤64)&&decide (0≤pg.lock)&&decide (pg.lock<pg.l.length)&&decide (0≤pg.unlock)&&decide (pg.unlock<pg.l.length)&&pg.l.all (inB pg.l.length)
theorem NA{v:Int}(h:YW v=true):0≤v∧v<8:=by simpa [YW]using h
theorem Lb{p:Nat}{i:In}(h:inB p i=true):Ib i∧(i.op≠22∧i.op≠23∧i.op≤23)∧(i.op=12→0≤i.k∧i.k<5)∧AN i p=true∧i.wk:=by
 unfold inB at h;simp only[Bool.and_eq_true,Bool.or_eq_true,decide_eq_true_eq]at h;obtain⟨⟨⟨⟨⟨h1,⟨⟨h2,h3⟩,h4⟩,h5⟩,h6,h7⟩,⟨h8,h9⟩,h10⟩,h11⟩,h12⟩:=h;refine⟨⟨by omega,NA h2,NA h3,NA h4,NA h5,h6,h7⟩,⟨h8,h9,h10⟩,fun e=>?_,h12,h6,by omega⟩;rcases h11 with h11 |h11
 ·exact absurd e h11
 ·exact h11
theorem Zi{pg:Pg}(h:XL pg=true):WA pg∧(∀ i∈pg.l,Ib i)∧(∀ i∈pg.l,i.op≠22∧i.op≠23∧i.op≤23)∧Mo pg.l:=by
 unfold XL at h;simp only[Bool.and_eq_true,decide_eq_true_eq]at h;obtain⟨⟨⟨⟨⟨⟨h1,h2⟩,h3⟩,h4⟩,h5⟩,h6⟩,h7⟩:=h;have hi:∀ i∈pg.l,inB pg.l.length i=true:=fun i hi=>List.all_eq_true.1 h7 i hi
 exact⟨⟨h1,h2,h3,h4,h5,h6,fun i hm=>(Lb (hi i hm)).2.2.2.2,fun i hm=>(Lb (hi i hm)).2.2.2.1⟩,fun i hm=>(Lb (hi i hm)).1,fun i hm=>(Lb (hi i hm)).2.1,fun i hm=>(Lb (hi i hm)).2.2.1⟩
theorem OU{pg:Pg}{ss is rs:List Nat}{n:Nat}(h:XL pg=true)(h8:ss.length≤8)(hle:∀ s∈ss,s≤4096)(DD:ss.sum≤8192)(h1:1≤n)(h2:n≤64)(Jo:ss.sum=is.length)(OM:0<is.length)(Jg:rs.length=n)(R3:∀ v∈is,v<4294967296)(Uj:∀ v∈rs,v<4294967296):Kq pg ss is rs n:=by
 obtain⟨a,b,c,d⟩:=Zi h;exact⟨h8,hle,DD,h1,h2,Jo,OM,Jg,R3,Uj,a,b,c,d⟩
theorem WB(f:Int→Value)(l:List Nat):(l.map fun v:Nat=>(v:Int)).map f=l.map fun v:Nat=>f v:=by rw[List.map_map];rfl
theorem HRow.nat{W:World}{v:Value}{t:TypeId}{f:Int→Value}{l:List Nat}(h:HRow W v t ((l.map fun v:Nat=>(v:Int)).map f)):Cg W v l.length (l.map fun v:Nat=>f v):=by
 have:=h.rdn;rw[List.length_map,WB]at this;exact this
def E8(l:List Nat):List Int:=l.map fun v:Nat=>(v:Int)
def SG(w:World)(pg:Pg)(ss is rs:List Nat)(e:Ending)(W:World):Prop :=
 ∃ (A B C D:Option Addr) (c k1 k2 k3:Nat),e=.returned (.tuple #[.agg #[.slice A pg.l.length c,.int .i64 pg.lock,.int .i64 pg.unlock,.slice B ss.length k1,.slice C is.length k2,.int .i64 0,.slice D rs.length k3],.int .i64 0]) ∧
  De W (.slice A pg.l.length c) (.slice B ss.length k1) (.slice C is.length k2) (.slice D rs.length k3) pg ss is rs∧Below w.heap.size w W
theorem SpecHas.nat{w W:World}{T:List UInt8}{pg:Pg}{ss is rs:List Int}{ssN isN rsN:List Nat}{e:Ending}(hpg:(B2 T).1=pg)(e1:ss=E8 ssN)(e2:is=E8 isN)(e3:rs=E8 rsN)(h:SpecHas w T ss is rs 0 e W):SG w pg ssN isN rsN e W:=by
 subst e1 e2 e3 hpg;obtain⟨va,vs,vi,vr,rfl,h0,h1,h2,h3,hb⟩:=h;have g0:=Cw.rd h0;have g1:=HRow.nat h1;have g2:=HRow.nat h2;have g3:=HRow.nat h3;obtain⟨A,c,rfl⟩:=g0.slice;obtain⟨B,k1,rfl⟩:=g1.slice;obtain⟨C,k2,rfl⟩:=g2.slice;obtain⟨D,k3,rfl⟩:=g3.slice;exact⟨A,B,C,D,c,k1,k2,k3,rfl,⟨g0,g1,g2,g3⟩,hb⟩
def H0(w:World)(e:Ending)(W:World):Prop :=
 ∃ (A B C D:Option Addr) (m c n1 n2 n3 k1 k2 k3:Nat) (l u:Int),e=.returned (.tuple #[.agg #[.slice A m c,.int .i64 l,.int .i64 u,.slice B n1 k1,.slice C n2 k2,.int .i64 0,.slice D n3 k3],.bool true])∧Below w.heap.size w W
theorem Ig.some{w W:World}{T:List UInt8}{ss is rs:List Int}{e:Ending}(h:Ig w T ss is rs 0 e W):H0 w e W:=by
 obtain⟨va,vs,vi,vr,rfl,h0,h1,h2,h3,hb⟩:=h;obtain⟨A,c,rfl⟩:=(BM.rd h0).slice;obtain⟨B,k1,rfl⟩:=h1.rdn.slice;obtain⟨C,k2,rfl⟩:=h2.rdn.slice;obtain⟨D,k3,rfl⟩:=h3.rdn.slice;exact⟨A,B,C,D,_,c,_,_,_,k1,k2,k3,_,_,rfl,hb⟩
theorem De.ref{W W1:World}{v vl vs vi vr:Value}{pg:Pg}{ss is rs:List Nat}(h:De W vl vs vi vr pg ss is rs)(hb:Below W.heap.size W W1)(hr:BM W1 W.heap.size v pg.l):De W1 v vs vi vr pg ss is rs:=⟨BM.rd hr,h.s.keep hb,h.i.keep hb,h.r.keep hb⟩
theorem wf_u8{n:Int}(h:(Lit.int .u8 n).wf=true):0≤n∧n<256:=by
 simp only[Lit.wf,Bool.and_eq_true,decide_eq_true_eq]at h;have h1:IntKind.u8.min=0:=by decide
 have h2:IntKind.u8.max=255:=by decide
 omega
end
end Go.Proofs.YtjjpiefgdggghaaGreatDoor

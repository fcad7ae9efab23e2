/- Parts: RunBeg, Rights, RunCame, RunOpA. -/
import Derived.Test.YtjjpiefgdggghaaGreatDoorK05
import Derived.Test.YtjjpiefgdggghaaGreatDoorK12
import Derived.Test.YtjjpiefgdggghaaGreatDoorK30
import Derived.Test.YtjjpiefgdggghaaGreatDoorK35
import Derived.Test.YtjjpiefgdggghaaGreatDoorK29
import Derived.Test.YtjjpiefgdggghaaGreatDoorK43
set_option linter.unusedVariables false
set_option linter.unusedSimpArgs false
set_option maxRecDepth 100000
set_option maxHeartbeats 40000000
namespace Go.Proofs.YtjjpiefgdggghaaGreatDoor
section
open Go.RowKit Go.Proofs.YtjjpiefgdggghaaGreatDoorW.PrintWords
theorem UW(k:Nat)(hk:k≤1000000):∃ cs:Array Value,cs.size=k∧(∀ j,j<k→cs[j]?=some (.int .i64 0)) ∧
  ∀ W,(Instr.makeSlice 26 (.int .i64 (k:Int)) (.int .i64 (k:Int))).run Tryz.prog W=.ok (.slice (some ⟨W.heap.size,0,none⟩) k k) (W.alloc (.cells cs 3)):=by
 obtain⟨i9,hi,hz0,hz1,hz2⟩:=info_parts EA;refine⟨madeCells (Value.int .i64 0).cells (k*1),by rw[size_madeCells,Nat.mul_one],fun j hj=>?_,fun W=>?_⟩
 ·simp[madeCells,Value.cells,hj,Nat.mod_one]
 ·have:=run_makeSlice (P:=Tryz.prog) W 26 3 i9 (.int .i64 0) Tryz.underlying26 hi hz0 .i64 .i64 (k:Int) (k:Int) (by omega) (Int.le_refl _) (by rw[hz1];simp;omega) (by rw[hz2];omega) (by omega);rw[hz1]at this
  simpa using this
theorem J6{W:World}{N g k:Nat}{cs:Array Value}(h:W.heap[g]?=some (.cells cs 3 (0,0)))(hN:N≤g)(hk:k≤1000000)(hs:cs.size=k)(hz:∀ j,j<k→cs[j]?=some (.int .i64 0)):Cc W N (.slice (some ⟨g,0,none⟩) k k) (List.replicate k 0):=by
 have e:cs.toList=List.replicate k (.int .i64 0):=by
  apply List.ext_getElem?
  intro j;rw[Array.getElem?_toList,List.getElem?_replicate];by_cases hj:j<k
  ·rw[if_pos hj,hz j hj]
  ·rw[if_neg hj,Array.getElem?_eq_none (by omega)]
 unfold Cc;rw[List.length_replicate,List.map_replicate];refine⟨by simp,.inr ⟨g,k,cs,rfl,hN,h,Nl _,by simp[maxLen];omega,by omega,?_⟩⟩;rw[e,List.take_replicate];simp
theorem Dp.low{w w1 W:World}{px:Nat}{vl vc vw vr:Value}{pl:Option Addr}{x:AG}(h:Dp w1 W px vl vc vw vr pl x)(hb:Below w.heap.size w w1)(hc:Cg w vl x.pg.l.length (By x.pg.l)):Dp w W px vl vc vw vr pl x :=
 ⟨hb.trans (h.b.mono hb.size),Nat.le_trans hb.size h.Ms,h.bx,hc,Gi h.cells hb.size,Gi h.words hb.size,Gi h.AP hb.size,h.ok,h.Wg⟩
theorem M6(W:World)(vl vs vi vr:Value)(pg:Pg)(ss is rs:List Nat)(n:Nat)(hl:Cg W vl pg.l.length (By pg.l))(hs:Cg W vs ss.length (ss.map fun s:Nat=>Value.int .i64 (s:Int)))
  (hi:Cg W vi is.length (is.map fun v:Nat=>Value.int .u32 v))(hr:Cg W vr rs.length (rs.map fun v:Nat=>Value.int .u32 v))(h8:ss.length≤8)(hle:∀ s∈ss,s≤4096)(DD:ss.sum≤8192)
  (h1:1≤n)(h2:n≤64)(OM:0<is.length)(hi1:is.length≤100000)(hr1:rs.length≤1000)(R3:∀ v∈is,v<4294967296)(Uj:∀ v∈rs,v<4294967296) :
  Calls Tryz.prog 40 #[.agg #[vl,.int .i64 pg.lock,.int .i64 pg.unlock,vs,vi,.int .i64 0,vr],.int .i64 (n:Int)] W fun e W'=>∃ pr px vc vw vo pl vd,e=.returned (.pointer (some ⟨pr,0,none⟩))∧CZ W W' pr px vl vc vw vo pl vd (.slice none 0 0) (AQ.new (AG.new pg ss is n 0 rs) n):=by
 have hC:=Az (fun(W1:World) (hb:Below W.heap.size W W1)=>OX W1 vl vs vi vr pg ss is rs n (hl.keep hb) (hs.keep hb) (hi.keep hb) (hr.keep hb) h8 hle DD h1 h2 OM hi1 hr1 R3 Uj);obtain⟨cz,hz0,hz1,hmk⟩:=UW n (by omega);have hb0:=Bw W (.cells #[vl,.int .i64 pg.lock,.int .i64 pg.unlock,vs,vi,.int .i64 0,vr] 29);have hN:=Bv W (.cells #[vl,.int .i64 pg.lock,.int .i64 pg.unlock,vs,vi,.int .i64 0,vr] 29);obtain⟨Ai,ci,rfl⟩:=hi.slice;obtain⟨Ar,cr,rfl⟩:=hr.slice;obtain⟨As,cs,rfl⟩:=hs.slice;obtain⟨Al,cl,rfl⟩:=hl.slice;obtain⟨fin,hfin⟩:∃ x,AG.new pg ss is n 0 rs=x:=⟨_,rfl⟩
 have hlf:Cg W (.slice Al pg.l.length cl) fin.pg.l.length (By fin.pg.l):=by rw[←hfin];exact hl
 rw[hfin]at hC ⊢;clear hl hs hi hr h8 hle DD OM hi1 hr1 R3 Uj hfin;generalize pg.l.length=ml at *;generalize pg.lock=lk at *;generalize pg.unlock=ul at *;generalize ss.length=ms at *;generalize is.length=mi at *;generalize rs.length=mr at *;obtain⟨W1,hW1⟩:∃ X,W.alloc (.cells #[.slice Al ml cl,.int .i64 lk,.int .i64 ul,.slice As ms cs,.slice Ai mi ci,.int .i64 0,.slice Ar mr cr] 29)=X:=⟨_,rfl⟩
 rw[hW1]at hb0 hN;have hz2:n≤1000000:=by omega
 replace hlf:=Az hlf;replace hz0:=Az hz0;replace hz1:=Az hz1;replace hz2:=Az hz2;clear h1 h2;go_enter Tryz.func40,Tryz.ntmps40;go_upto_region 1 with fail
 try rw[hW1]
 clear hW1;have hS5:(fun W'=>W'.cell? ⟨W.heap.size,0,none⟩=some (.slice Al ml cl)∧W'.cell? ⟨W.heap.size,1,none⟩=some (.int .i64 lk)∧W'.cell? ⟨W.heap.size,2,none⟩=some (.int .i64 ul)∧W'.cell? ⟨W.heap.size,3,none⟩=some (.slice As ms cs)∧W'.cell? ⟨W.heap.size,4,none⟩=some (.slice Ai mi ci)∧W'.cell? ⟨W.heap.size,5,none⟩=some (.int .i64 0)∧W'.cell? ⟨W.heap.size,6,none⟩=some (.slice Ar mr cr)) W1.drew:=⟨(Bc (Be hN) 0).trans rfl,(Bc (Be hN) 1).trans rfl,(Bc (Be hN) 2).trans rfl,(Bc (Be hN) 3).trans rfl,(Bc (Be hN) 4).trans rfl,(Bc (Be hN) 5).trans rfl,(Bc (Be hN) 6).trans rfl⟩
 refine Aw [] (S:=fun W'=>W'.cell? ⟨W.heap.size,0,none⟩=some (.slice Al ml cl)∧W'.cell? ⟨W.heap.size,1,none⟩=some (.int .i64 lk)∧W'.cell? ⟨W.heap.size,2,none⟩=some (.int .i64 ul)∧W'.cell? ⟨W.heap.size,3,none⟩=some (.slice As ms cs)∧W'.cell? ⟨W.heap.size,4,none⟩=some (.slice Ai mi ci)∧W'.cell? ⟨W.heap.size,5,none⟩=some (.int .i64 0)∧W'.cell? ⟨W.heap.size,6,none⟩=some (.slice Ar mr cr)) (by kernel_rfl) hS5 (fun hS0=>?_);replace hb0:=Az (hb0.trans (Bd (Below.refl _ W1)));clear hS5 hN;generalize W1.drew=W1 at *;try simp only[Act.put,Sa,Sb,Sc]
 refine tY 1 (fun _=>hS0) ?_;refine tL 0 (hS0) ?_;refine tY 3 (fun _=>hS0) ?_;refine Ab (rs:=[2,4]) (by kernel_rfl) (by simp) ?_;refine Aa.cons (An rfl) (fun K hK=>?_) (Aa.cons (An rfl) (fun K hK=>?_) Aa.nil)
 ·go_simp
  go_at_call 71
  refine(hC.out _ hb0.out).mono ?_;rintro e w2 ⟨px,vc,vw,vo,pl,rfl,hE⟩;have hB2:=hE.b;replace hS0:(fun W'=>W'.cell? ⟨W.heap.size,0,none⟩=some (.slice Al ml cl)∧W'.cell? ⟨W.heap.size,1,none⟩=some (.int .i64 lk)∧W'.cell? ⟨W.heap.size,2,none⟩=some (.int .i64 ul)∧W'.cell? ⟨W.heap.size,3,none⟩=some (.slice As ms cs)∧W'.cell? ⟨W.heap.size,4,none⟩=some (.slice Ai mi ci)∧W'.cell? ⟨W.heap.size,5,none⟩=some (.int .i64 0)∧W'.cell? ⟨W.heap.size,6,none⟩=some (.slice Ar mr cr)) w2:=⟨Ck hB2 hS0.1,Ck hB2 hS0.2.1,Ck hB2 hS0.2.2.1,Ck hB2 hS0.2.2.2.1,Ck hB2 hS0.2.2.2.2.1,Ck hB2 hS0.2.2.2.2.2.1,Ck hB2 hS0.2.2.2.2.2.2⟩
  replace hE:=hE.low hb0.out hlf.out;replace hb0:=Az hE.b;replace hE:=Az hE;clear hC hB2;go_wp2_with fail
  refine hK.out _ _ (fun _=>hS0) (fun _=>?_);clear hK;try simp only[Act.put,Sa,Sb,Sc]
  refine Ab (rs:=[4]) (by kernel_rfl) (by simp) ?_;refine Aa.cons (An rfl) (fun K hK=>?_) Aa.nil;have hbz:=Bw w2 (.cells cz 3);have hA:=J6 (N:=W.heap.size) (Bv w2 (.cells cz 3)) hE.out.hz hz2.out hz0.out hz1.out;replace hS0:(fun W'=>W'.cell? ⟨W.heap.size,0,none⟩=some (.slice Al ml cl)∧W'.cell? ⟨W.heap.size,1,none⟩=some (.int .i64 lk)∧W'.cell? ⟨W.heap.size,2,none⟩=some (.int .i64 ul)∧W'.cell? ⟨W.heap.size,3,none⟩=some (.slice As ms cs)∧W'.cell? ⟨W.heap.size,4,none⟩=some (.slice Ai mi ci)∧W'.cell? ⟨W.heap.size,5,none⟩=some (.int .i64 0)∧W'.cell? ⟨W.heap.size,6,none⟩=some (.slice Ar mr cr)) (w2.alloc (.cells cz 3)):=⟨Ck hbz hS0.1,Ck hbz hS0.2.1,Ck hbz hS0.2.2.1,Ck hbz hS0.2.2.2.1,Ck hbz hS0.2.2.2.2.1,Ck hbz hS0.2.2.2.2.2.1,Ck hbz hS0.2.2.2.2.2.2⟩
  replace hE:=Az (hE.out.keep hbz);replace hS0:=Az hS0;replace hA:=Az hA;obtain⟨w3,hw3⟩:∃ X,w2.alloc (.cells cz 3)=X:=⟨_,rfl⟩
  obtain⟨gd,hgd⟩:∃ x,w2.heap.size=x:=⟨_,rfl⟩
  rw[hw3]at hE hA hS0;rw[hgd]at hA;clear hbz;go_simp
  go_wp2_with fail
  try rw[hw3]
  try rw[hgd]
  replace hS0:=hS0.out;refine hK.out _ _ (fun _=>hS0) (fun _=>?_);clear hK hw3 hgd;try simp only[Act.put,Sa,Sb,Sc]
  refine tY 5 (fun _=>hS0) ?_;refine Ab (rs:=[6]) (by kernel_rfl) (by simp) ?_;refine Aa.cons (An rfl) (fun K hK=>?_) Aa.nil;have hbx:=Bw w3 (.cells #[.pointer (some ⟨px,0,none⟩),.slice (some ⟨gd,0,none⟩) n n,.slice none 0 0,.int .i64 0] 90);have hRn:CZ W (w3.alloc (.cells #[.pointer (some ⟨px,0,none⟩),.slice (some ⟨gd,0,none⟩) n n,.slice none 0 0,.int .i64 0] 90)) w3.heap.size px (.slice Al ml cl) vc vw vo pl (.slice (some ⟨gd,0,none⟩) n n) (.slice none 0 0) (AQ.new fin n) :=
   ⟨hE.out.keep hbx,hE.out.hz,Bv _ _,Om hA.out (fun k hk=>hbx.block k (Ol hA.out k hk)),⟨rfl,.inl ⟨rfl,rfl⟩⟩⟩
  replace hS0:(fun W'=>W'.cell? ⟨W.heap.size,0,none⟩=some (.slice Al ml cl)∧W'.cell? ⟨W.heap.size,1,none⟩=some (.int .i64 lk)∧W'.cell? ⟨W.heap.size,2,none⟩=some (.int .i64 ul)∧W'.cell? ⟨W.heap.size,3,none⟩=some (.slice As ms cs)∧W'.cell? ⟨W.heap.size,4,none⟩=some (.slice Ai mi ci)∧W'.cell? ⟨W.heap.size,5,none⟩=some (.int .i64 0)∧W'.cell? ⟨W.heap.size,6,none⟩=some (.slice Ar mr cr)) (w3.alloc (.cells #[.pointer (some ⟨px,0,none⟩),.slice (some ⟨gd,0,none⟩) n n,.slice none 0 0,.int .i64 0] 90)):=⟨Ck hbx hS0.1,Ck hbx hS0.2.1,Ck hbx hS0.2.2.1,Ck hbx hS0.2.2.2.1,Ck hbx hS0.2.2.2.2.1,Ck hbx hS0.2.2.2.2.2.1,Ck hbx hS0.2.2.2.2.2.2⟩
  replace hRn:=Az hRn;replace hS0:=Az hS0;obtain⟨w4,hw4⟩:∃ X,w3.alloc (.cells #[.pointer (some ⟨px,0,none⟩),.slice (some ⟨gd,0,none⟩) n n,.slice none 0 0,.int .i64 0] 90)=X:=⟨_,rfl⟩
  obtain⟨pr,Jh⟩:∃ x,w3.heap.size=x:=⟨_,rfl⟩
  rw[hw4,Jh]at hRn;rw[hw4]at hS0;clear hbx hE hA;go_simp
  go_wp2_with fail
  try rw[hw4]
  try rw[Jh]
  refine hK.out _ _ (fun _=>hS0.out) (fun _=>?_);clear hK hw4 Jh;try simp only[Act.put,Sa,Sb,Sc]
  refine tY 7 (fun _=>hS0.out) ?_;refine A4 (by kernel_rfl) ?_ _;clear hS0;go_wp2;go_ret;first |exact⟨_,_,_,_,_,_,_,rfl,hRn.out⟩ |exact⟨_,rfl,_,_,_,_,_,_,hRn.out⟩ |exact⟨_,_,_,_,_,_,hRn.out⟩ |exact⟨_,_,_,_,_,_,_,hRn.out⟩ |exact⟨_,_,_,_,_,hRn.out⟩
 ·have hbz:=Bw W1 (.cells cz 3);have hA:=J6 (N:=W.heap.size) (Bv W1 (.cells cz 3)) hb0.out.size hz2.out hz0.out hz1.out;replace hS0:(fun W'=>W'.cell? ⟨W.heap.size,0,none⟩=some (.slice Al ml cl)∧W'.cell? ⟨W.heap.size,1,none⟩=some (.int .i64 lk)∧W'.cell? ⟨W.heap.size,2,none⟩=some (.int .i64 ul)∧W'.cell? ⟨W.heap.size,3,none⟩=some (.slice As ms cs)∧W'.cell? ⟨W.heap.size,4,none⟩=some (.slice Ai mi ci)∧W'.cell? ⟨W.heap.size,5,none⟩=some (.int .i64 0)∧W'.cell? ⟨W.heap.size,6,none⟩=some (.slice Ar mr cr)) (W1.alloc (.cells cz 3)):=⟨Ck hbz hS0.1,Ck hbz hS0.2.1,Ck hbz hS0.2.2.1,Ck hbz hS0.2.2.2.1,Ck hbz hS0.2.2.2.2.1,Ck hbz hS0.2.2.2.2.2.1,Ck hbz hS0.2.2.2.2.2.2⟩
  replace hb0:=Az (hb0.out.trans (hbz.mono hb0.out.size));replace hS0:=Az hS0;replace hA:=Az hA;obtain⟨w2,hw3⟩:∃ X,W1.alloc (.cells cz 3)=X:=⟨_,rfl⟩
  obtain⟨gd,hgd⟩:∃ x,W1.heap.size=x:=⟨_,rfl⟩
  rw[hw3]at hb0 hA hS0;rw[hgd]at hA;clear hbz;go_simp
  go_wp2_with fail
  try rw[hw3]
  try rw[hgd]
  replace hS0:=hS0.out;refine hK.out _ _ (fun _=>hS0) (fun _=>?_);clear hK hw3 hgd;try simp only[Act.put,Sa,Sb,Sc]
  refine Ab (rs:=[2]) (by kernel_rfl) (by simp) ?_;refine Aa.cons (An rfl) (fun K hK=>?_) Aa.nil;go_simp
  go_at_call 71
  refine(hC.out _ hb0.out).mono ?_;rintro e w3 ⟨px,vc,vw,vo,pl,rfl,hE⟩;have hB2:=hE.b;replace hS0:(fun W'=>W'.cell? ⟨W.heap.size,0,none⟩=some (.slice Al ml cl)∧W'.cell? ⟨W.heap.size,1,none⟩=some (.int .i64 lk)∧W'.cell? ⟨W.heap.size,2,none⟩=some (.int .i64 ul)∧W'.cell? ⟨W.heap.size,3,none⟩=some (.slice As ms cs)∧W'.cell? ⟨W.heap.size,4,none⟩=some (.slice Ai mi ci)∧W'.cell? ⟨W.heap.size,5,none⟩=some (.int .i64 0)∧W'.cell? ⟨W.heap.size,6,none⟩=some (.slice Ar mr cr)) w3:=⟨Ck hB2 hS0.1,Ck hB2 hS0.2.1,Ck hB2 hS0.2.2.1,Ck hB2 hS0.2.2.2.1,Ck hB2 hS0.2.2.2.2.1,Ck hB2 hS0.2.2.2.2.2.1,Ck hB2 hS0.2.2.2.2.2.2⟩
  replace hA:=Az (show Cc w3 W.heap.size _ _ from Om hA.out (fun k hk=>hB2.block k (Ol hA.out k hk)));replace hE:=hE.low hb0.out hlf.out;replace hE:=Az hE;clear hC hB2;go_wp2_with fail
  refine hK.out _ _ (fun _=>hS0) (fun _=>?_);clear hK;try simp only[Act.put,Sa,Sb,Sc]
  refine tY 5 (fun _=>hS0) ?_;refine Ab (rs:=[6]) (by kernel_rfl) (by simp) ?_;refine Aa.cons (An rfl) (fun K hK=>?_) Aa.nil;have hbx:=Bw w3 (.cells #[.pointer (some ⟨px,0,none⟩),.slice (some ⟨gd,0,none⟩) n n,.slice none 0 0,.int .i64 0] 90);have hRn:CZ W (w3.alloc (.cells #[.pointer (some ⟨px,0,none⟩),.slice (some ⟨gd,0,none⟩) n n,.slice none 0 0,.int .i64 0] 90)) w3.heap.size px (.slice Al ml cl) vc vw vo pl (.slice (some ⟨gd,0,none⟩) n n) (.slice none 0 0) (AQ.new fin n) :=
   ⟨hE.out.keep hbx,hE.out.hz,Bv _ _,Om hA.out (fun k hk=>hbx.block k (Ol hA.out k hk)),⟨rfl,.inl ⟨rfl,rfl⟩⟩⟩
  replace hS0:(fun W'=>W'.cell? ⟨W.heap.size,0,none⟩=some (.slice Al ml cl)∧W'.cell? ⟨W.heap.size,1,none⟩=some (.int .i64 lk)∧W'.cell? ⟨W.heap.size,2,none⟩=some (.int .i64 ul)∧W'.cell? ⟨W.heap.size,3,none⟩=some (.slice As ms cs)∧W'.cell? ⟨W.heap.size,4,none⟩=some (.slice Ai mi ci)∧W'.cell? ⟨W.heap.size,5,none⟩=some (.int .i64 0)∧W'.cell? ⟨W.heap.size,6,none⟩=some (.slice Ar mr cr)) (w3.alloc (.cells #[.pointer (some ⟨px,0,none⟩),.slice (some ⟨gd,0,none⟩) n n,.slice none 0 0,.int .i64 0] 90)):=⟨Ck hbx hS0.1,Ck hbx hS0.2.1,Ck hbx hS0.2.2.1,Ck hbx hS0.2.2.2.1,Ck hbx hS0.2.2.2.2.1,Ck hbx hS0.2.2.2.2.2.1,Ck hbx hS0.2.2.2.2.2.2⟩
  replace hRn:=Az hRn;replace hS0:=Az hS0;obtain⟨w4,hw4⟩:∃ X,w3.alloc (.cells #[.pointer (some ⟨px,0,none⟩),.slice (some ⟨gd,0,none⟩) n n,.slice none 0 0,.int .i64 0] 90)=X:=⟨_,rfl⟩
  obtain⟨pr,Jh⟩:∃ x,w3.heap.size=x:=⟨_,rfl⟩
  rw[hw4,Jh]at hRn;rw[hw4]at hS0;clear hbx hE hA;go_simp
  go_wp2_with fail
  try rw[hw4]
  try rw[Jh]
  refine hK.out _ _ (fun _=>hS0.out) (fun _=>?_);clear hK hw4 Jh;try simp only[Act.put,Sa,Sb,Sc]
  refine tY 7 (fun _=>hS0.out) ?_;refine A4 (by kernel_rfl) ?_ _;clear hS0;go_wp2;go_ret;first |exact⟨_,_,_,_,_,_,_,rfl,hRn.out⟩ |exact⟨_,rfl,_,_,_,_,_,_,hRn.out⟩ |exact⟨_,_,_,_,_,_,hRn.out⟩ |exact⟨_,_,_,_,_,_,_,hRn.out⟩ |exact⟨_,_,_,_,_,hRn.out⟩
structure WA (pg:Pg):Prop where
 l0:0<pg.l.length
 l1:pg.l.length≤64
 a0:0≤pg.lock
 a1:pg.lock<pg.l.length
 b0:0≤pg.unlock
 b1:pg.unlock<pg.l.length
 wk:∀ i∈pg.l,i.wk
 ok:∀ i∈pg.l,AN i pg.l.length=true
theorem O9(W:World)(vl:Value)(pg:Pg)(hl:Cg W vl pg.l.length (By pg.l))(hp:WA pg) :
  Calls Tryz.prog 38 #[.agg #[vl,.int .i64 pg.lock,.int .i64 pg.unlock]] W fun e W'=>e=.returned (.bool true)∧Below W.heap.size W W':=by
 obtain⟨gl,cl,rfl,hc0⟩:=hl.cells hp.l0;obtain⟨m,hm⟩:∃ m,pg.l.length=m:=⟨_,rfl⟩
 obtain⟨lk,hlk⟩:∃ m,pg.lock=m:=⟨_,rfl⟩
 obtain⟨ul,hul⟩:∃ m,pg.unlock=m:=⟨_,rfl⟩
 have m0:=hp.l0;have m1:=hp.l1;have a0:=hp.a0;have a1:=hp.a1;have b0:=hp.b0;have b1:=hp.b1;rw[hm]at m0 m1 a1 b1 ⊢;rw[hlk]at a0 a1 ⊢;rw[hul]at b0 b1 ⊢;have i1:¬(m:Int)<1:=by omega
 have i2:¬(64:Int)<(m:Int):=by omega
 have i3:¬lk<0:=by omega
 have i4:¬ul<0:=by omega
 have i5:¬(m:Int)≤lk:=by omega
 have i6:¬(m:Int)≤ul:=by omega
 clear a0 a1 b0 b1 hlk hul;have hb0:=Az (Bw W (.cells #[.slice (some ⟨gl,0,none⟩) m cl,.int .i64 lk,.int .i64 ul] 25));replace hc0:=Az hc0;replace hm:=Az hm;replace hp:=Az hp;clear hl;go_enter Tryz.func38,Tryz.ntmps38;go_wp2_with fail
 go_loopw [40] (fun v40 wr=>∃ (k:Nat),v40=.int .i64 (k:Int)∧k≤m∧Af (Below W.heap.size W wr)) (fun v40 _=>m-(intOf v40).toNat)
 case atStart=>exact⟨0,rfl,Nat.zero_le _,hb0⟩
 case round =>
  obtain⟨k,rfl,hk,hB⟩:=hrel;clear hb0 i1 i2 i3 i4 i5 i6;by_cases hlt:k<m
  ·have hkx:k<pg.l.length:=by rw[hm.out];exact hlt
   have hmem:pg.l.getD k In.zero∈pg.l:=by rw[List.getD_eq_getElem?_getD,List.getElem?_eq_getElem hkx];exact List.getElem_mem _
   have hwk:=hp.out.wk _ hmem;have hok:=hp.out.ok _ hmem;rw[hm.out]at hok;obtain⟨⟨op,d,s,t,u,a,kk,q⟩,hi⟩:∃ i,pg.l.getD k In.zero=i:=⟨_,rfl⟩
   rw[hi]at hwk hok;obtain⟨a0,a1,a2,a3,a4,a5,a6,a7⟩:=FI (fun j u hj=>Ck hB.out (hc0.out j u hj)) hkx hi;have k0:(0:Int)≤(k:Int):=by omega
   have k1:(k:Int)<(m:Int):=by omega
   have kw:IntKind.i64.wrap ((k:Int)+1)=(k:Int)+1:=by rw[IntKind.wrap_i64];omega
   have R6:=fun W=>Ht ⟨op,d,s,t,u,a,kk,q⟩ (m:Int) hwk W
   rw[hok]at R6;dsimp only[In.v]at R6;replace R6:=Az R6;have hE:=Az (hB.out.trans ((Bw wr (.cells #[.int .i64 op,.int .i64 d,.int .i64 s,.int .i64 t,.int .i64 u,.int .i64 a,.int .u32 kk,.int .i64 q] 114)).mono hB.out.size));clear hi hkx hmem hwk hok hB;go_wp2_with fail
   refine(R6.out _).mono ?_;rintro e w5 ⟨rfl,hb5⟩;replace hE:=Az (hE.out.trans (hb5.mono hE.out.size));clear hb5 R6 a0 a1 a2 a3 a4 a5 a6 a7;go_wp2;go_roundw
   case rel=>exact⟨k+1,by go_num,hlt,hE⟩
   case measure=>simp[intOf];omega
  ·obtain rfl:k=m:=by omega
   have n1:¬(k:Int)<(k:Int):=by omega
   go_wp2;go_ret;exact⟨rfl,hB.out⟩
theorem B4(W:World)(vl vs vi vr:Value)(pg:Pg)(ss is rs:List Nat)(each n:Nat)(hl:Cg W vl pg.l.length (By pg.l))(hs:Cg W vs ss.length (ss.map fun s:Nat=>Value.int .i64 (s:Int)))
  (hi:Cg W vi is.length (is.map fun v:Nat=>Value.int .u32 v))(hr:Cg W vr rs.length (rs.map fun v:Nat=>Value.int .u32 v))(h8:ss.length≤8)(hle:∀ s∈ss,s≤4096)(DD:ss.sum≤8192)
  (h1:1≤n)(h2:n≤64)(he:each≤8)(Jo:ss.sum=is.length)(Jg:rs.length=n)(hp:WA pg) :
  Calls Tryz.prog 14 #[.agg #[vl,.int .i64 pg.lock,.int .i64 pg.unlock,vs,vi,.int .i64 (each:Int),vr],.int .i64 (n:Int)] W fun e W'=>e=.returned (.bool true)∧Below W.heap.size W W':=by
 have hb0:=Bw W (.cells #[vl,.int .i64 pg.lock,.int .i64 pg.unlock,vs,vi,.int .i64 (each:Int),vr] 29);have hC:=Az (JR _ vs ss (hs.keep hb0) h8 hle DD);have hN:=Bv W (.cells #[vl,.int .i64 pg.lock,.int .i64 pg.unlock,vs,vi,.int .i64 (each:Int),vr] 29);have hR:=Az (fun W1 (hb:Below W.heap.size W W1)=>O9 W1 vl pg (hl.keep hb) hp);obtain⟨Ai,ci,rfl⟩:=hi.slice;obtain⟨Ar,cr,rfl⟩:=hr.slice;obtain⟨As,cs,rfl⟩:=hs.slice;obtain⟨Al,cl,rfl⟩:=hl.slice;obtain⟨W1,hW1⟩:∃ X,W.alloc (.cells #[.slice Al pg.l.length cl,.int .i64 pg.lock,.int .i64 pg.unlock,.slice As ss.length cs,.slice Ai is.length ci,.int .i64 (each:Int),.slice Ar rs.length cr] 29)=X:=⟨_,rfl⟩
 rw[hW1]at hb0 hC hN;have hml:(AL ss).length=is.length:=by unfold AL;rw[H5];exact Jo
 obtain⟨cells,hcells⟩:∃ x,AL ss=x:=⟨_,rfl⟩
 rw[hcells]at hC hml;rw[Jg]at hW1 hN;generalize is.length=mi at *;rw[Jg];have n3:W1.cell? ⟨W.heap.size,3,none⟩=some (.slice As ss.length cs):=(Bc hN 3).trans rfl;have n0:(1:Int)≤(n:Int):=by omega
 have n1:(n:Int)≤64:=by omega
 have e0:(0:Int)≤(each:Int):=by omega
 have e1:(each:Int)≤8:=by omega
 generalize hlg:pg.l.length=ml at *;generalize ss.length=ms at *;generalize hlk:pg.lock=lk at *;generalize hul:pg.unlock=ul at *;replace hb0:=Az hb0;replace hN:=Az hN;replace hml:=Az hml;clear hl hs hi hr h8 hle DD Jo Jg hp hcells he h1 h2 hlg hlk hul;go_enter Tryz.func14,Tryz.ntmps14;go_wp2_with fail
 try rw[hW1]
 clear hW1;refine hC.out.mono ?_;rintro e w2 ⟨vc,rfl,hcl,hb2⟩;replace hN:=Az (Bk hb2 hN.out);obtain⟨Ac,cc,rfl⟩:=Ke hcl;rw[hml.out];replace hb0:=Az (hb0.out.trans (hb2.mono hb0.out.size));clear hC hb2 n3 hml hcl;have c0:w2.cell? ⟨W.heap.size,0,none⟩=some (.slice Al ml cl):=(Bc hN.out 0).trans rfl;have c1:w2.cell? ⟨W.heap.size,1,none⟩=some (.int .i64 lk):=(Bc hN.out 1).trans rfl;have c2:w2.cell? ⟨W.heap.size,2,none⟩=some (.int .i64 ul):=(Bc hN.out 2).trans rfl;have c4:w2.cell? ⟨W.heap.size,4,none⟩=some (.slice Ai mi ci):=(Bc hN.out 4).trans rfl;have c5:w2.cell? ⟨W.heap.size,5,none⟩=some (.int .i64 (each:Int)):=(Bc hN.out 5).trans rfl;have c6:w2.cell? ⟨W.heap.size,6,none⟩=some (.slice Ar n cr):=(Bc hN.out 6).trans rfl;clear hN;go_wp2_with fail
 refine(hR.out _ hb0.out).mono ?_;rintro e w3 ⟨rfl,hb3⟩;replace hb0:=Az (hb0.out.trans (hb3.mono hb0.out.size));clear hR hb3 c0 c1 c2 c4 c5 c6;go_wp2;go_ret;exact⟨rfl,hb0.out⟩
theorem Cq.E3{B:Nat}{Ts:List TypeId}{M:Nat→Prop}{w w':World}(h:Cq B Ts (fun _=>False) w w'):Cq B Ts M w w' :=
 ⟨h.os,h.tape,h.output,h.size,fun k hk hc=>h.block k hk (hc.imp id fun h2=>⟨fun f=>f,h2.2⟩)⟩
theorem Cq.AaL{B:Nat}{Ts:List TypeId}{M:Nat→Prop}{a w:World}(h:Cq B Ts M a w){p:Addr}(hM:M p.block)(hB:B≤p.block)(v:Value):Cq B Ts M a (w.setCell p v) :=
 h.trans ⟨rfl,rfl,rfl,by simp[World.setCell],fun k hk hc=>Below.heap_setCell _ _ _ _ fun e=>by
  subst e;rcases hc with hc |⟨hc,_⟩
  ·omega
  ·exact hc hM⟩
def L8(vd:Value)(k:Nat):Prop:=vd.ownBlock=some k
section
variable {w W W1:World} {pr px:Nat} {vl vc vw vr vd ve:Value} {pl:Option Addr} {r:AQ}
theorem CZ.keep(h:CZ w W pr px vl vc vw vr pl vd ve r)(hb:Below W.heap.size W W1):CZ w W1 pr px vl vc vw vr pl vd ve r :=
 ⟨h.x.keep hb,h.Jh,Bk hb h.br,Om h.act (fun k hk=>hb.block k (Ol h.act k hk)),Om h.l (fun k hk=>hb.block k (Ol h.l k hk))⟩
theorem CZ.J7{g n c t v:Nat}(h:CZ w W pr px vl vc vw vr pl (.slice (some ⟨g,0,none⟩) n c) ve r)(ht:t<r.act.length):∀ W',W'=W.setCell ⟨g,t,none⟩ (.int .i64 v) →
  CZ w W' pr px vl vc vw vr pl (.slice (some ⟨g,0,none⟩) n c) ve {r with act:=r.act.set t v}∧Cq w.heap.size [3] (fun _=>False) W W'∧Cq w.heap.size [] (L8 (.slice (some ⟨g,0,none⟩) n c)) W W':=by
 rintro W' rfl;have ha:=h.act;unfold Cc at ha;obtain⟨g',c',hv,_,hg,⟨cs,hcs,_⟩,_⟩:=CO ha (by omega);have e1:g=g':=by injection hv with h1 h2 h3;injection h1 with h1;injection h1
 have e2:n=r.act.length:=by injection hv
 subst e1;subst e2;have F:Cq w.heap.size [3] (fun _=>False) W (W.setCell ⟨g,t,none⟩ (.int .i64 v)):=(Cq.refl _ _ _ W).set (p:=⟨g,t,none⟩) hcs (by simp) hg _;have hp:=DF ha t (by omega) (.int .i64 v);refine⟨⟨h.x.frame F (by decide) (by decide) (by decide) (by decide),h.Jh,F.GR h.br (by decide) (fun f=>f),?_,F.own h.l (by decide) (fun _ _ f=>f)⟩,F,Cq.AaL (M:=L8 (.slice (some ⟨g,0,none⟩) r.act.length c)) (Cq.refl _ _ _ W) (p:=⟨g,t,none⟩) (show Value.ownBlock _=_ from rfl) hg _⟩;unfold Cc;simp only[List.length_set,List.map_set];exact hp
theorem CZ.YO(h:CZ w W pr px vl vc vw vr pl vd ve r):∀ W',W'=W.setCell ⟨pr,3,none⟩ (.int .i64 1) →
  CZ w W' pr px vl vc vw vr pl vd ve {r with bad:=true}∧Cq w.heap.size [90] (fun _=>False) W W':=by
 rintro W' rfl;have F:Cq w.heap.size [90] (fun _=>False) W (W.setCell ⟨pr,3,none⟩ (.int .i64 1)):=(Cq.refl _ _ _ W).set (p:=⟨pr,3,none⟩) h.br (by simp) h.Jh _;exact⟨⟨h.x.frame F (by decide) (by decide) (by decide) (by decide),h.Jh,Bs h.br 3 (.int .i64 1),F.own h.act (by decide) (fun _ _ f=>f),F.own h.l (by decide) (fun _ _ f=>f)⟩,F⟩
end
theorem AaM(k:Nat)(hk:k<5)(W:World):(Instr.index 156 (.agg #[.int .i64 0,.int .i64 2,.int .i64 3,.int .i64 4,.int .i64 9]) (.int .i64 (k:Int))).run Tryz.prog W=.ok (.int .i64 (FN k:Int)) W:=by
 match k,hk with
 |0,_=>simp[Instr.index,Sem.run_bind,asIntOf,go_sem];rfl
 |1,_=>simp[Instr.index,Sem.run_bind,asIntOf,go_sem];rfl
 |2,_=>simp[Instr.index,Sem.run_bind,asIntOf,go_sem];rfl
 |3,_=>simp[Instr.index,Sem.run_bind,asIntOf,go_sem];rfl
 |4,_=>simp[Instr.index,Sem.run_bind,asIntOf,go_sem];rfl
def Is:List TypeId:=[90,97]
def ZR(w W:World)(pr px:Nat)(vl vc vw vr:Value)(pl:Option Addr)(vd:Value)(r:AQ)(e:Ending)(W':World):Prop :=
 e=.returned (.tuple #[])∧∃ ve',CZ w W' pr px vl vc vw vr pl vd ve' r∧Cq w.heap.size Is (L8 vd) W W'
theorem GF(w W:World)(pr px:Nat)(vl vc vw vr:Value)(pl:Option Addr)(vd ve vm:Value)(r:AQ)(t:Nat)(o:Ex)(h:CZ w W pr px vl vc vw vr pl vd ve r)(ht:t<r.act.length)(ht2:r.act.length≤64)
  (hm:Bo W w.heap.size vm o.marks)(hmk:∀ k∈o.marks,0≤k∧k<5)(hml:o.marks.length≤300)(hl:r.l.length+o.marks.length≤90000000) :
  Calls Tryz.prog 73 #[.pointer (some ⟨pr,0,none⟩),.int .i64 t,.agg #[vm,.int .i64 o.done,.int .i64 o.addr,.int .i64 (o.wrote:Int),.int .i64 (o.stay:Int),.int .i64 o.e]] W (ZR w W pr px vl vc vw vr pl vd (r.EK t o)):=by
 obtain⟨A,c,rfl⟩:=hm.slice;obtain⟨m,hmm⟩:∃ m,o.marks.length=m:=⟨_,rfl⟩
 rw[hmm]at hm hml hl ⊢;obtain⟨W1,hW1⟩:∃ X,W.alloc (.cells #[.slice A m c,.int .i64 o.done,.int .i64 o.addr,.int .i64 (o.wrote:Int),.int .i64 (o.stay:Int),.int .i64 o.e] 135)=X:=⟨_,rfl⟩
 have hb1:Below W.heap.size W W1:=by rw[←hW1];exact Bw W _
 have b5:W1.heap[W.heap.size]?=some (.cells #[.slice A m c,.int .i64 o.done,.int .i64 o.addr,.int .i64 (o.wrote:Int),.int .i64 (o.stay:Int),.int .i64 o.e] 135 (0,0)):=by rw[←hW1];exact Bv W _
 have hR1:=h.keep hb1;have hm1:Bo W1 w.heap.size (.slice A m c) o.marks:=hm.keep hb1;have q0:W1.cell? ⟨W.heap.size,0,none⟩=some (.slice A m c):=(Bc b5 0).trans rfl;have FW:Cq w.heap.size Is (fun _=>False) W W1:=Cq.CD hb1;obtain⟨fin,hfin⟩:∃ x,r.EK t o=x:=⟨_,rfl⟩
 rw[hfin];replace hfin:=Az hfin;replace h:=Az h;replace hR1:=Az hR1;replace hm1:=Az hm1;replace b5:=Az b5;replace FW:=Az FW;replace hmm:=Az hmm;go_enter Tryz.func73,Tryz.ntmps73;go_wp2_with fail
 try rw[hW1]
 clear hW1;go_loopw [7,11] (fun v7 v11 wr=>∃ (n:Nat) (ve':Value),v11=.int .i64 (n:Int)∧n≤m∧Af (CZ w wr pr px vl vc vw vr pl vd ve' {r with l:=r.l++(o.marks.take n).map (fun k=>(FN k,t))})∧Af (Cq w.heap.size [90,97] (fun _=>False) W1 wr)) (fun _ v11 _=>m-(intOf v11).toNat)
 case atStart=>exact⟨0,ve,rfl,Nat.zero_le _,⟨by simpa using hR1.out⟩,⟨Cq.refl _ _ _ _⟩⟩
 case round =>
  obtain⟨n,ve',rfl,hn,hR,hF⟩:=hrel;by_cases hlt:n<m
  ·have hnm:n<o.marks.length:=by rw[hmm.out];exact hlt
   obtain⟨g,c',hv,_,hcell⟩:=Bo.cell (hF.out.own hm1.out (by decide) (fun _ _ f=>f)) (by omega);have hcn:=hcell n hnm;have hA:A=some ⟨g,0,none⟩:=by injection hv
   subst hA;have hkm:=hmk (o.marks.getD n 0) (by rw[List.getD_eq_getElem?_getD,List.getElem?_eq_getElem hnm];exact List.getElem_mem _);have htake:(o.marks.take (n+1)).map (fun k=>(FN k,t))=(o.marks.take n).map (fun k=>(FN k,t))++[(FN (o.marks.getD n 0),t)]:=by
    rw[List.take_succ_eq_append_getElem hnm,List.map_append,List.getD_eq_getElem?_getD,List.getElem?_eq_getElem hnm];rfl
   generalize o.marks.getD n 0=k at *;have n0:(0:Int)≤(n:Int):=by omega
   have n1:(n:Int)<(m:Int):=by omega
   have nw:IntKind.i64.wrap ((n:Int)+1)=(n:Int)+1:=by rw[IntKind.wrap_i64];omega
   have hent:=fun kk=>FB w wr pr px vl vc vw vr pl vd ve' _ kk t hR.out (by simp;omega)
   replace hent:=Az hent;replace htake:=Az htake;clear hcell hv;obtain⟨kn,rfl⟩:∃ y:Nat,k=y:=⟨k.toNat,by omega⟩
   have hix:=fun W=>AaM kn (by omega) W
   go_wp2_with fail
   refine(hent.out _).mono ?_;rintro e w2 ⟨rfl,ve2,hR2,hF2⟩;rw[List.append_assoc]at hR2;go_wp2;go_roundw
   case rel=>exact⟨n+1,ve2,by go_num,hlt,⟨by rw[htake.out];exact hR2⟩,⟨hF.out.trans hF2⟩⟩
   case measure=>simp[intOf];omega
  ·obtain rfl:n=m:=by omega
   have n1:¬(n:Int)<(n:Int):=by omega
   have hR2:=hR.out;rw[←hmm.out,List.take_length]at hR2;have b5':=hF.out.GR b5.out (by decide) (fun f=>f);have e5:wr.cell? ⟨W.heap.size,5,none⟩=some (.int .i64 o.e):=(Bc b5' 5).trans rfl;have e1:wr.cell? ⟨W.heap.size,1,none⟩=some (.int .i64 o.done):=(Bc b5' 1).trans rfl;have hact:=hR2.act;unfold Cc at hact;obtain⟨gd,cd,hvd,_,hgd,⟨cs,hcs,_⟩,hcell⟩:=CO hact (show 0<r.act.length by omega);subst hvd;obtain⟨nd,hnd⟩:∃ y,r.act.length=y:=⟨_,rfl⟩
   have c1:wr.cell? ⟨pr,1,none⟩=some (.slice (some ⟨gd,0,none⟩) nd cd):=by rw[←hnd];exact(Bc hR2.br 1).trans rfl
   obtain⟨av,hav⟩:∃ y,r.act.getD t 0=y:=⟨_,rfl⟩
   have ca:wr.cell? ⟨gd,t,none⟩=some (.int .i64 (av:Int)):=hcell t _ (by rw[←hav];simp[List.getD_eq_getElem?_getD,List.getElem?_eq_getElem ht]);have t0:(0:Int)≤(t:Int):=by omega
   have t1:(t:Int)<(nd:Int):=by omega
   have hf:=hfin.out;unfold AQ.EK at hf;rw[hav]at hf;obtain⟨bm,hbm⟩:∃ b,Kz av o=b:=⟨_,rfl⟩
   rw[hbm]at hf;clear hfin hcell hact b5';replace hf:=Az hf;replace hR2:=Az hR2;go_upto_region 6 with fail
   go_cut [43] from 22 to 22 (fun v43 wx=>v43=.bool bm∧wx=wr.drew)
   case first =>
    unfold Kz at hbm;by_cases he:o.e=0
    ·have x1:(o.e != 0)=false:=by simp[he]
     by_cases hd:o.done≥0
     ·have x2:((av:Int)==3)=decide (av=3):=by
       by_cases h3:av=3
       ·subst h3;rfl
       ·rw[decide_eq_false h3];exact Bq (by omega)
      have x3:(o.done==2)=decide (o.done=2):=by
       by_cases h3:o.done=2
       ·rw[h3];rfl
       ·rw[decide_eq_false h3];exact Bq h3
      obtain⟨y2,hy2⟩:∃ y,decide (av=3)=y:=⟨_,rfl⟩
      obtain⟨y3,hy3⟩:∃ y,decide (o.done=2)=y:=⟨_,rfl⟩
      rw[hy2]at x2 hbm;rw[hy3]at x3 hbm;rw[decide_eq_false (fun h=>h he),decide_eq_true hd,Bool.false_or,Bool.true_and]at hbm;clear he;subst hbm;go_region
      go_wp2_with fail
      go_meet
      exact⟨rfl,rfl⟩
     ·rw[decide_eq_false (fun h=>h he),decide_eq_false hd]at hbm;have hd':o.done<0:=by omega
      clear he;subst hbm;go_region
      go_wp2_with fail
      go_meet
      exact⟨rfl,rfl⟩
    ·have x1:(o.e != 0)=true:=bne_iff_ne.2 he;rw[decide_eq_true he,Bool.true_or]at hbm;subst hbm;go_region
     go_wp2_with fail
     go_meet
     exact⟨rfl,rfl⟩
   case rest =>
    obtain⟨rfl,rfl⟩:=hcut;clear e5;have hRd:=hR2.out.keep (Bd (Below.refl _ _));have hFd:=((hF.out.then (Bd (Below.refl _ _))).mono (Ts':=Is) (by simp[Is]))
    replace hFd:=Az hFd;cases bm with
    |true =>
     have c3:wr.cell? ⟨pr,3,none⟩=some (.int .i64 (Uw r.bad)):=(Bc hR2.out.br 3).trans rfl;have f3:=Bf hR2.out.br 3;replace hRd:=Az hRd;go_wp2;obtain⟨hR5,hF5⟩:=hR2.out.YO _ rfl;refine bodyPost_ret (fn:=Tryz.f73) (v:=.tuple #[]) (results_none rfl _ _ _) rfl ⟨rfl,ve',?_,(FW.out.E3.trans ((Cq.E3 (hF.out.mono (Ts':=Is) (by simp[Is]))).trans (Cq.E3 (hF5.mono (by simp[Is]))))).drew⟩;rw[←hf.out];simp only[if_true];rw[←hnd];exact hR5.keep (Bd (Below.refl _ _))
    |false =>
     have hent:=fun kk=>FB w wr.drew pr px vl vc vw vr pl _ ve' _ kk t hRd (by simp only[List.length_append,List.length_map];have:=hmm.out;omega)
     have hR3:=hRd;replace hent:=Az hent;clear hRd;replace hf:=hf.out;rw[if_neg (by decide)]at hf;by_cases hd0:o.done=0
     ·rw[hd0]at hf;replace hf:=Az hf;replace hR3:=Az hR3;have x0:(o.done==0)=true:=by rw[hd0];rfl
      have x1:(o.done==1)=false:=by rw[hd0];rfl
      have x2:(o.done==2)=false:=by rw[hd0];rfl
      have x3:(o.done==3)=false:=by rw[hd0];rfl
      clear hd0;go_wp2_with fail
      refine(hent.out 6).mono ?_;rintro e w2 ⟨rfl,ve2,hR4,hF4⟩;have hact4:=hR4.act;unfold Cc at hact4;obtain⟨g4,c4,hv4,_,_,⟨cs4,hcs4,_⟩,hcell4⟩:=CO hact4 (show 0<r.act.length by omega);have eg:gd=g4:=by injection hv4 with h1 h2 h3;injection h1 with h1;injection h1
      rw[←eg]at hcs4 hcell4;have c14:w2.cell? ⟨pr,1,none⟩=some (.slice (some ⟨gd,0,none⟩) nd cd):=by rw[←hnd];exact(Bc hR4.br 1).trans rfl
      have ca4:w2.cell? ⟨gd,t,none⟩=some (.int .i64 (av:Int)):=hcell4 t _ (by rw[←hav];simp[List.getD_eq_getElem?_getD,List.getElem?_eq_getElem ht]);have fa4:=Bf hcs4 t;clear hcell4 hv4 hcs4 eg hact4 x0 x1 x2 x3;replace hR4:=Az hR4;go_wp2;obtain⟨hR5,_,hF5⟩:=hR4.out.J7 (v:=0) ht _ rfl;refine bodyPost_end (fn:=Tryz.f73) (v:=.tuple #[]) (results_none rfl _ _ _) rfl ⟨rfl,ve2,?_,FW.out.E3.trans ((hFd.out.E3.trans (Cq.E3 (hF4.mono (by simp[Is])))).trans (hF5.mono (by simp)))⟩;rw[←hf.out,←hnd];exact hR5
     ·by_cases hd1:o.done=1
      ·rw[hd1]at hf;replace hf:=Az hf;replace hR3:=Az hR3;have x0:(o.done==0)=false:=by rw[hd1];rfl
       have x1:(o.done==1)=true:=by rw[hd1];rfl
       have x2:(o.done==2)=false:=by rw[hd1];rfl
       have x3:(o.done==3)=false:=by rw[hd1];rfl
       clear hd1;go_wp2_with fail
       refine(hent.out 5).mono ?_;rintro e w2 ⟨rfl,ve2,hR4,hF4⟩;have hact4:=hR4.act;unfold Cc at hact4;obtain⟨g4,c4,hv4,_,_,⟨cs4,hcs4,_⟩,hcell4⟩:=CO hact4 (show 0<r.act.length by omega);have eg:gd=g4:=by injection hv4 with h1 h2 h3;injection h1 with h1;injection h1
       rw[←eg]at hcs4 hcell4;have c14:w2.cell? ⟨pr,1,none⟩=some (.slice (some ⟨gd,0,none⟩) nd cd):=by rw[←hnd];exact(Bc hR4.br 1).trans rfl
       have ca4:w2.cell? ⟨gd,t,none⟩=some (.int .i64 (av:Int)):=hcell4 t _ (by rw[←hav];simp[List.getD_eq_getElem?_getD,List.getElem?_eq_getElem ht]);have fa4:=Bf hcs4 t;clear hcell4 hv4 hcs4 eg hact4 x0 x1 x2 x3;replace hR4:=Az hR4;go_wp2;obtain⟨hR5,_,hF5⟩:=hR4.out.J7 (v:=2) ht _ rfl;refine bodyPost_end (fn:=Tryz.f73) (v:=.tuple #[]) (results_none rfl _ _ _) rfl ⟨rfl,ve2,?_,FW.out.E3.trans ((hFd.out.E3.trans (Cq.E3 (hF4.mono (by simp[Is])))).trans (hF5.mono (by simp)))⟩;rw[←hf.out,←hnd];exact hR5
      ·by_cases hd2:o.done=2
       ·rw[hd2]at hf;replace hf:=Az hf;replace hR3:=Az hR3;have x0:(o.done==0)=false:=by rw[hd2];rfl
        have x1:(o.done==1)=false:=by rw[hd2];rfl
        have x2:(o.done==2)=true:=by rw[hd2];rfl
        have x3:(o.done==3)=false:=by rw[hd2];rfl
        clear hd2;go_wp2_with fail
        refine(hent.out 10).mono ?_;rintro e w2 ⟨rfl,ve2,hR4,hF4⟩;have hact4:=hR4.act;unfold Cc at hact4;obtain⟨g4,c4,hv4,_,_,⟨cs4,hcs4,_⟩,hcell4⟩:=CO hact4 (show 0<r.act.length by omega);have eg:gd=g4:=by injection hv4 with h1 h2 h3;injection h1 with h1;injection h1
        rw[←eg]at hcs4 hcell4;have c14:w2.cell? ⟨pr,1,none⟩=some (.slice (some ⟨gd,0,none⟩) nd cd):=by rw[←hnd];exact(Bc hR4.br 1).trans rfl
        have ca4:w2.cell? ⟨gd,t,none⟩=some (.int .i64 (av:Int)):=hcell4 t _ (by rw[←hav];simp[List.getD_eq_getElem?_getD,List.getElem?_eq_getElem ht]);have fa4:=Bf hcs4 t;clear hcell4 hv4 hcs4 eg hact4 x0 x1 x2 x3;replace hR4:=Az hR4;go_wp2;obtain⟨hR5,_,hF5⟩:=hR4.out.J7 (v:=0) ht _ rfl;refine bodyPost_end (fn:=Tryz.f73) (v:=.tuple #[]) (results_none rfl _ _ _) rfl ⟨rfl,ve2,?_,FW.out.E3.trans ((hFd.out.E3.trans (Cq.E3 (hF4.mono (by simp[Is])))).trans (hF5.mono (by simp)))⟩;rw[←hf.out,←hnd];exact hR5
       ·by_cases hd3:o.done=3
        ·rw[hd3]at hf;replace hf:=Az hf;replace hR3:=Az hR3;have x0:(o.done==0)=false:=by rw[hd3];rfl
         have x1:(o.done==1)=false:=by rw[hd3];rfl
         have x2:(o.done==2)=false:=by rw[hd3];rfl
         have x3:(o.done==3)=true:=by rw[hd3];rfl
         clear hd3;go_wp2_with fail
         refine(hent.out 7).mono ?_;rintro e w2 ⟨rfl,ve2,hR4,hF4⟩;have hact4:=hR4.act;unfold Cc at hact4;obtain⟨g4,c4,hv4,_,_,⟨cs4,hcs4,_⟩,hcell4⟩:=CO hact4 (show 0<r.act.length by omega);have eg:gd=g4:=by injection hv4 with h1 h2 h3;injection h1 with h1;injection h1
         rw[←eg]at hcs4 hcell4;have c14:w2.cell? ⟨pr,1,none⟩=some (.slice (some ⟨gd,0,none⟩) nd cd):=by rw[←hnd];exact(Bc hR4.br 1).trans rfl
         have ca4:w2.cell? ⟨gd,t,none⟩=some (.int .i64 (av:Int)):=hcell4 t _ (by rw[←hav];simp[List.getD_eq_getElem?_getD,List.getElem?_eq_getElem ht]);have fa4:=Bf hcs4 t;clear hcell4 hv4 hcs4 eg hact4 x0 x1 x2 x3;replace hR4:=Az hR4;go_wp2;obtain⟨hR5,_,hF5⟩:=hR4.out.J7 (v:=0) ht _ rfl;refine bodyPost_end (fn:=Tryz.f73) (v:=.tuple #[]) (results_none rfl _ _ _) rfl ⟨rfl,ve2,?_,FW.out.E3.trans ((hFd.out.E3.trans (Cq.E3 (hF4.mono (by simp[Is])))).trans (hF5.mono (by simp)))⟩;rw[←hf.out,←hnd];exact hR5
        ·have x0:(o.done==0)=false:=Bq hd0;have x1:(o.done==1)=false:=Bq hd1;have x2:(o.done==2)=false:=Bq hd2;have x3:(o.done==3)=false:=Bq hd3;have he:JI o.done=none:=by simp[JI,hd0,hd1,hd2,hd3]
         rw[he]at hf;replace hf:=Az hf;replace hR3:=Az hR3;clear he;go_wp2;refine bodyPost_end (fn:=Tryz.f73) (v:=.tuple #[]) (results_none rfl _ _ _) rfl ⟨rfl,ve',?_,FW.out.E3.trans hFd.out.E3⟩;rw[←hf.out,←hnd];exact hR3.out
theorem CZ.exec{w W W':World}{pr px:Nat}{vl vc vw vr vd ve:Value}{pl:Option Addr}{r:AQ}{x':AG}(h:CZ w W pr px vl vc vw vr pl vd ve r)(hx:Dp w W' px vl vc vw vr pl x')(F:Cq w.heap.size Jz (fun _=>False) W W') :
  CZ w W' pr px vl vc vw vr pl vd ve {r with x:=x'} :=
 ⟨hx,h.Jh,F.GR h.br (by decide) (fun f=>f),F.own h.act (by decide) (fun _ _ f=>f),F.own h.l (by decide) (fun _ _ f=>f)⟩
def Mo(code:List In):Prop:=∀ i∈code,i.op=12→0≤i.k∧i.k<5
def Rc(ms:List Int)(n:Nat):Prop:=(∀ k∈ms,0≤k∧k<5)∧ms.length≤n
theorem Iu(code:List In)(t:Nat)(hm:Mo code):∀ (n:Nat) (c:CoreM) (ms:List Int) (b:Nat),Rc ms b→Rc (runM code t n c ms).2.1 (b+n)
 |0,c,ms,b,h=>⟨h.1,Nat.le_trans h.2 (by omega)⟩
 |n+1,c,ms,b,h=>by
  have h':Rc ms (b+(n+1)):=⟨h.1,Nat.le_trans h.2 (by omega)⟩
  unfold runM;by_cases h1:c.pc<0∨c.pc≥code.length
  ·rw[if_pos h1];exact h'
  ·rw[if_neg h1];by_cases h2:(code.getD c.pc.toNat In.zero).op≥16
   ·rw[if_pos h2];exact h'
   ·rw[if_neg h2];by_cases h3:n=0
    ·rw[if_pos h3];exact h'
    ·rw[if_neg h3];by_cases h4:(code.getD c.pc.toNat In.zero).op=13
     ·rw[if_pos h4];exact h'
     ·rw[if_neg h4];have hp:c.pc.toNat<code.length:=by omega
      have hi:code.getD c.pc.toNat In.zero∈code:=by
       rw[List.getD_eq_getElem?_getD,List.getElem?_eq_getElem hp];exact List.getElem_mem _
      by_cases h5:(code.getD c.pc.toNat In.zero).op=12
      ·rw[if_pos h5];have:=Iu code t hm n (Fz c (code.getD c.pc.toNat In.zero) t) (ms++[(code.getD c.pc.toNat In.zero).k]) (b+1) ⟨fun k hk=>by
        rcases List.mem_append.1 hk with hk |hk
        ·exact h.1 k hk
        ·rw[List.mem_singleton.1 hk];exact hm _ hi h5,by have:=h.2;simp;omega⟩
       exact⟨this.1,Nat.le_trans this.2 (by omega)⟩
      ·rw[if_neg h5];have:=Iu code t hm n (Fz c (code.getD c.pc.toNat In.zero) t) ms b h;exact⟨this.1,Nat.le_trans this.2 (by omega)⟩
theorem go_marks(x:AG)(t:Nat)(c:CoreM)(a:Int)(wr:Nat)(hm:Mo x.pg.l):Rc (x.go t c a wr).2.marks 300:=by
 have:=Iu x.pg.l t hm 257 c [] 0 ⟨by simp,by simp⟩;exact⟨this.1,Nat.le_trans this.2 (by omega)⟩
theorem F7(x:AG)(t:Nat)(u:Bool)(hm:Mo x.pg.l):Rc (x.begin t u).2.marks 300:=go_marks x t _ _ _ hm
theorem Ia(x:AG)(t:Nat)(late:Bool)(hm:Mo x.pg.l):Rc (x.step t late).2.marks 300:=by
 have h0:Rc [] 300:=⟨by simp,by simp⟩
 unfold AG.step;dsimp only;split
 ·exact h0
 split
 ·exact h0
 split
 ·exact go_marks _ t _ _ _ hm
 split
 ·split
  ·exact h0
  ·exact go_marks _ t _ _ _ hm
 split
 ·exact h0
 split
 ·exact h0
 ·rename_i r _ _
  refine go_marks _ t _ _ _ ?_;split<;>exact hm
end
end Go.Proofs.YtjjpiefgdggghaaGreatDoor

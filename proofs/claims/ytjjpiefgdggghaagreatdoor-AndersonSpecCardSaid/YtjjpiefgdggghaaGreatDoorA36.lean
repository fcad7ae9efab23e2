/- Parts: RunBeg, RunOpA. -/
import Derived.Test.YtjjpiefgdggghaaGreatDoorA03
import Derived.Test.YtjjpiefgdggghaaGreatDoorA13
import Derived.Test.YtjjpiefgdggghaaGreatDoorA35
import Derived.Test.YtjjpiefgdggghaaGreatDoorA34
set_option linter.unusedVariables false
set_option linter.unusedSimpArgs false
set_option maxRecDepth 100000
set_option maxHeartbeats 40000000
namespace Go.Proofs.YtjjpiefgdggghaaGreatDoor
section
open Go.RowKit Go.Proofs.YtjjpiefgdggghaaGreatDoorW.PrintWords
theorem QY(k:Nat)(hk:k≤1000000):∃ cs:Array Value,cs.size=k∧(∀ j,j<k→cs[j]?=some (.int .i64 0)) ∧
  ∀ W,(Instr.makeSlice 26 (.int .i64 (k:Int)) (.int .i64 (k:Int))).run Tryz.prog W=.ok (.slice (some ⟨W.heap.size,0,none⟩) k k) (W.alloc (.cells cs 3)):=by
 obtain⟨i9,hi,hz0,hz1,hz2⟩:=info_parts EX;refine⟨madeCells (Value.int .i64 0).cells (k*1),by rw[size_madeCells,Nat.mul_one],fun j hj=>?_,fun W=>?_⟩
 ·simp[madeCells,Value.cells,hj,Nat.mod_one]
 ·have:=run_makeSlice (P:=Tryz.prog) W 26 3 i9 (.int .i64 0) Tryz.underlying26 hi hz0 .i64 .i64 (k:Int) (k:Int) (by omega) (Int.le_refl _) (by rw[hz1];simp;omega) (by rw[hz2];omega) (by omega);rw[hz1]at this
  simpa using this
theorem Im{W:World}{N g k:Nat}{cs:Array Value}(h:W.heap[g]?=some (.cells cs 3 (0,0)))(hN:N≤g)(hk:k≤1000000)(hs:cs.size=k)(hz:∀ j,j<k→cs[j]?=some (.int .i64 0)):BL W N (.slice (some ⟨g,0,none⟩) k k) (List.replicate k 0):=by
 have e:cs.toList=List.replicate k (.int .i64 0):=by
  apply List.ext_getElem?
  intro j;rw[Array.getElem?_toList,List.getElem?_replicate];by_cases hj:j<k
  ·rw[if_pos hj,hz j hj]
  ·rw[if_neg hj,Array.getElem?_eq_none (by omega)]
 unfold BL;rw[List.length_replicate,List.map_replicate];refine⟨by simp,.inr ⟨g,k,cs,rfl,hN,h,Nl _,by simp[maxLen];omega,by omega,?_⟩⟩;rw[e,List.take_replicate];simp
theorem CS.low{w w1 W:World}{px:Nat}{vl vc vw vr:Value}{pl:Option Addr}{x:AF}(h:CS w1 W px vl vc vw vr pl x)(hb:Below w.heap.size w w1)(hc:Bx w vl x.pg.l.length (AQ x.pg.l)):CS w W px vl vc vw vr pl x :=
 ⟨hb.trans (h.b.mono hb.size),Nat.le_trans hb.size h.Ko,h.bx,hc,EW h.cells hb.size,EW h.words hb.size,EW h.AG hb.size,h.ok,h.Sl⟩
theorem Kw(W:World)(vl vs vi vr:Value)(pg:Pg)(ss is rs:List Nat)(n:Nat)(hl:Bx W vl pg.l.length (AQ pg.l))(hs:Bx W vs ss.length (ss.map fun s:Nat=>Value.int .i64 (s:Int)))
  (hi:Bx W vi is.length (is.map fun v:Nat=>Value.int .u32 v))(hr:Bx W vr rs.length (rs.map fun v:Nat=>Value.int .u32 v))(h8:ss.length≤8)(hle:∀ s∈ss,s≤4096)(E6:ss.sum≤8192)
  (h1:1≤n)(h2:n≤64)(Lb:0<is.length)(hi1:is.length≤100000)(hr1:rs.length≤1000)(Qm:∀ v∈is,v<4294967296)(QZ:∀ v∈rs,v<4294967296) :
  Calls Tryz.prog 40 #[.agg #[vl,.int .i64 pg.lock,.int .i64 pg.unlock,vs,vi,.int .i64 0,vr],.int .i64 (n:Int)] W fun e W'=>∃ pr px vc vw vo pl vd,e=.returned (.pointer (some ⟨pr,0,none⟩))∧C5 W W' pr px vl vc vw vo pl vd (.slice none 0 0) (AH.new (AF.new pg ss is n 0 rs) n):=by
 have hC:=Az (fun(W1:World) (hb:Below W.heap.size W W1)=>M4 W1 vl vs vi vr pg ss is rs n (hl.keep hb) (hs.keep hb) (hi.keep hb) (hr.keep hb) h8 hle E6 h1 h2 Lb hi1 hr1 Qm QZ);obtain⟨cz,hz0,hz1,hmk⟩:=QY n (by omega);have hb0:=Bw W (.cells #[vl,.int .i64 pg.lock,.int .i64 pg.unlock,vs,vi,.int .i64 0,vr] 29);have hN:=Bv W (.cells #[vl,.int .i64 pg.lock,.int .i64 pg.unlock,vs,vi,.int .i64 0,vr] 29);obtain⟨Ai,ci,rfl⟩:=hi.slice;obtain⟨Ar,cr,rfl⟩:=hr.slice;obtain⟨As,cs,rfl⟩:=hs.slice;obtain⟨Al,cl,rfl⟩:=hl.slice;obtain⟨fin,hfin⟩:∃ x,AF.new pg ss is n 0 rs=x:=⟨_,rfl⟩
 have hlf:Bx W (.slice Al pg.l.length cl) fin.pg.l.length (AQ fin.pg.l):=by rw[←hfin];exact hl
 rw[hfin]at hC ⊢;clear hl hs hi hr h8 hle E6 Lb hi1 hr1 Qm QZ hfin;generalize pg.l.length=ml at *;generalize pg.lock=lk at *;generalize pg.unlock=ul at *;generalize ss.length=ms at *;generalize is.length=mi at *;generalize rs.length=mr at *;obtain⟨W1,hW1⟩:∃ X,W.alloc (.cells #[.slice Al ml cl,.int .i64 lk,.int .i64 ul,.slice As ms cs,.slice Ai mi ci,.int .i64 0,.slice Ar mr cr] 29)=X:=⟨_,rfl⟩
 rw[hW1]at hb0 hN;have hz2:n≤1000000:=by omega
 replace hlf:=Az hlf;replace hz0:=Az hz0;replace hz1:=Az hz1;replace hz2:=Az hz2;clear h1 h2;go_enter Tryz.func40,Tryz.ntmps40;go_upto_region 1 with fail
 try rw[hW1]
 clear hW1;have hS5:(fun W'=>W'.cell? ⟨W.heap.size,0,none⟩=some (.slice Al ml cl)∧W'.cell? ⟨W.heap.size,1,none⟩=some (.int .i64 lk)∧W'.cell? ⟨W.heap.size,2,none⟩=some (.int .i64 ul)∧W'.cell? ⟨W.heap.size,3,none⟩=some (.slice As ms cs)∧W'.cell? ⟨W.heap.size,4,none⟩=some (.slice Ai mi ci)∧W'.cell? ⟨W.heap.size,5,none⟩=some (.int .i64 0)∧W'.cell? ⟨W.heap.size,6,none⟩=some (.slice Ar mr cr)) W1.drew:=⟨(Bc (Be hN) 0).trans rfl,(Bc (Be hN) 1).trans rfl,(Bc (Be hN) 2).trans rfl,(Bc (Be hN) 3).trans rfl,(Bc (Be hN) 4).trans rfl,(Bc (Be hN) 5).trans rfl,(Bc (Be hN) 6).trans rfl⟩
 refine Av [] (S:=fun W'=>W'.cell? ⟨W.heap.size,0,none⟩=some (.slice Al ml cl)∧W'.cell? ⟨W.heap.size,1,none⟩=some (.int .i64 lk)∧W'.cell? ⟨W.heap.size,2,none⟩=some (.int .i64 ul)∧W'.cell? ⟨W.heap.size,3,none⟩=some (.slice As ms cs)∧W'.cell? ⟨W.heap.size,4,none⟩=some (.slice Ai mi ci)∧W'.cell? ⟨W.heap.size,5,none⟩=some (.int .i64 0)∧W'.cell? ⟨W.heap.size,6,none⟩=some (.slice Ar mr cr)) (by kernel_rfl) hS5 (fun hS0=>?_);replace hb0:=Az (hb0.trans (Bd (Below.refl _ W1)));clear hS5 hN;generalize W1.drew=W1 at *;try simp only[Act.put,Sa,Sb,Sc]
 refine tY 1 (fun _=>hS0) ?_;refine tL 0 (hS0) ?_;refine tY 3 (fun _=>hS0) ?_;refine Ab (rs:=[2,4]) (by kernel_rfl) (by simp) ?_;refine Aa.cons (Au rfl) (fun K hK=>?_) (Aa.cons (Au rfl) (fun K hK=>?_) Aa.nil)
 ·go_simp
  go_at_call 71
  refine(hC.out _ hb0.out).mono ?_;rintro e w2 ⟨px,vc,vw,vo,pl,rfl,hE⟩;have hB2:=hE.b;replace hS0:(fun W'=>W'.cell? ⟨W.heap.size,0,none⟩=some (.slice Al ml cl)∧W'.cell? ⟨W.heap.size,1,none⟩=some (.int .i64 lk)∧W'.cell? ⟨W.heap.size,2,none⟩=some (.int .i64 ul)∧W'.cell? ⟨W.heap.size,3,none⟩=some (.slice As ms cs)∧W'.cell? ⟨W.heap.size,4,none⟩=some (.slice Ai mi ci)∧W'.cell? ⟨W.heap.size,5,none⟩=some (.int .i64 0)∧W'.cell? ⟨W.heap.size,6,none⟩=some (.slice Ar mr cr)) w2:=⟨Ck hB2 hS0.1,Ck hB2 hS0.2.1,Ck hB2 hS0.2.2.1,Ck hB2 hS0.2.2.2.1,Ck hB2 hS0.2.2.2.2.1,Ck hB2 hS0.2.2.2.2.2.1,Ck hB2 hS0.2.2.2.2.2.2⟩
  replace hE:=hE.low hb0.out hlf.out;replace hb0:=Az hE.b;replace hE:=Az hE;clear hC hB2;go_wp2_with fail
  refine hK.out _ _ (fun _=>hS0) (fun _=>?_);clear hK;try simp only[Act.put,Sa,Sb,Sc]
  refine Ab (rs:=[4]) (by kernel_rfl) (by simp) ?_;refine Aa.cons (Au rfl) (fun K hK=>?_) Aa.nil;have hbz:=Bw w2 (.cells cz 3);have hA:=Im (N:=W.heap.size) (Bv w2 (.cells cz 3)) hE.out.hz hz2.out hz0.out hz1.out;replace hS0:(fun W'=>W'.cell? ⟨W.heap.size,0,none⟩=some (.slice Al ml cl)∧W'.cell? ⟨W.heap.size,1,none⟩=some (.int .i64 lk)∧W'.cell? ⟨W.heap.size,2,none⟩=some (.int .i64 ul)∧W'.cell? ⟨W.heap.size,3,none⟩=some (.slice As ms cs)∧W'.cell? ⟨W.heap.size,4,none⟩=some (.slice Ai mi ci)∧W'.cell? ⟨W.heap.size,5,none⟩=some (.int .i64 0)∧W'.cell? ⟨W.heap.size,6,none⟩=some (.slice Ar mr cr)) (w2.alloc (.cells cz 3)):=⟨Ck hbz hS0.1,Ck hbz hS0.2.1,Ck hbz hS0.2.2.1,Ck hbz hS0.2.2.2.1,Ck hbz hS0.2.2.2.2.1,Ck hbz hS0.2.2.2.2.2.1,Ck hbz hS0.2.2.2.2.2.2⟩
  replace hE:=Az (hE.out.keep hbz);replace hS0:=Az hS0;replace hA:=Az hA;obtain⟨w3,hw3⟩:∃ X,w2.alloc (.cells cz 3)=X:=⟨_,rfl⟩
  obtain⟨gd,hgd⟩:∃ x,w2.heap.size=x:=⟨_,rfl⟩
  rw[hw3]at hE hA hS0;rw[hgd]at hA;clear hbz;go_simp
  go_wp2_with fail
  try rw[hw3]
  try rw[hgd]
  replace hS0:=hS0.out;refine hK.out _ _ (fun _=>hS0) (fun _=>?_);clear hK hw3 hgd;try simp only[Act.put,Sa,Sb,Sc]
  refine tY 5 (fun _=>hS0) ?_;refine Ab (rs:=[6]) (by kernel_rfl) (by simp) ?_;refine Aa.cons (Au rfl) (fun K hK=>?_) Aa.nil;have hbx:=Bw w3 (.cells #[.pointer (some ⟨px,0,none⟩),.slice (some ⟨gd,0,none⟩) n n,.slice none 0 0,.int .i64 0] 90);have hRn:C5 W (w3.alloc (.cells #[.pointer (some ⟨px,0,none⟩),.slice (some ⟨gd,0,none⟩) n n,.slice none 0 0,.int .i64 0] 90)) w3.heap.size px (.slice Al ml cl) vc vw vo pl (.slice (some ⟨gd,0,none⟩) n n) (.slice none 0 0) (AH.new fin n) :=
   ⟨hE.out.keep hbx,hE.out.hz,Bv _ _,Om hA.out (fun k hk=>hbx.block k (Ol hA.out k hk)),⟨rfl,.inl ⟨rfl,rfl⟩⟩⟩
  replace hS0:(fun W'=>W'.cell? ⟨W.heap.size,0,none⟩=some (.slice Al ml cl)∧W'.cell? ⟨W.heap.size,1,none⟩=some (.int .i64 lk)∧W'.cell? ⟨W.heap.size,2,none⟩=some (.int .i64 ul)∧W'.cell? ⟨W.heap.size,3,none⟩=some (.slice As ms cs)∧W'.cell? ⟨W.heap.size,4,none⟩=some (.slice Ai mi ci)∧W'.cell? ⟨W.heap.size,5,none⟩=some (.int .i64 0)∧W'.cell? ⟨W.heap.size,6,none⟩=some (.slice Ar mr cr)) (w3.alloc (.cells #[.pointer (some ⟨px,0,none⟩),.slice (some ⟨gd,0,none⟩) n n,.slice none 0 0,.int .i64 0] 90)):=⟨Ck hbx hS0.1,Ck hbx hS0.2.1,Ck hbx hS0.2.2.1,Ck hbx hS0.2.2.2.1,Ck hbx hS0.2.2.2.2.1,Ck hbx hS0.2.2.2.2.2.1,Ck hbx hS0.2.2.2.2.2.2⟩
  replace hRn:=Az hRn;replace hS0:=Az hS0;obtain⟨w4,hw4⟩:∃ X,w3.alloc (.cells #[.pointer (some ⟨px,0,none⟩),.slice (some ⟨gd,0,none⟩) n n,.slice none 0 0,.int .i64 0] 90)=X:=⟨_,rfl⟩
  obtain⟨pr,HX⟩:∃ x,w3.heap.size=x:=⟨_,rfl⟩
  rw[hw4,HX]at hRn;rw[hw4]at hS0;clear hbx hE hA;go_simp
  go_wp2_with fail
  try rw[hw4]
  try rw[HX]
  refine hK.out _ _ (fun _=>hS0.out) (fun _=>?_);clear hK hw4 HX;try simp only[Act.put,Sa,Sb,Sc]
  refine tY 7 (fun _=>hS0.out) ?_;refine Ax (by kernel_rfl) ?_ _;clear hS0;go_wp2;go_ret;first |exact⟨_,_,_,_,_,_,_,rfl,hRn.out⟩ |exact⟨_,rfl,_,_,_,_,_,_,hRn.out⟩ |exact⟨_,_,_,_,_,_,hRn.out⟩ |exact⟨_,_,_,_,_,_,_,hRn.out⟩ |exact⟨_,_,_,_,_,hRn.out⟩
 ·have hbz:=Bw W1 (.cells cz 3);have hA:=Im (N:=W.heap.size) (Bv W1 (.cells cz 3)) hb0.out.size hz2.out hz0.out hz1.out;replace hS0:(fun W'=>W'.cell? ⟨W.heap.size,0,none⟩=some (.slice Al ml cl)∧W'.cell? ⟨W.heap.size,1,none⟩=some (.int .i64 lk)∧W'.cell? ⟨W.heap.size,2,none⟩=some (.int .i64 ul)∧W'.cell? ⟨W.heap.size,3,none⟩=some (.slice As ms cs)∧W'.cell? ⟨W.heap.size,4,none⟩=some (.slice Ai mi ci)∧W'.cell? ⟨W.heap.size,5,none⟩=some (.int .i64 0)∧W'.cell? ⟨W.heap.size,6,none⟩=some (.slice Ar mr cr)) (W1.alloc (.cells cz 3)):=⟨Ck hbz hS0.1,Ck hbz hS0.2.1,Ck hbz hS0.2.2.1,Ck hbz hS0.2.2.2.1,Ck hbz hS0.2.2.2.2.1,Ck hbz hS0.2.2.2.2.2.1,Ck hbz hS0.2.2.2.2.2.2⟩
  replace hb0:=Az (hb0.out.trans (hbz.mono hb0.out.size));replace hS0:=Az hS0;replace hA:=Az hA;obtain⟨w2,hw3⟩:∃ X,W1.alloc (.cells cz 3)=X:=⟨_,rfl⟩
  obtain⟨gd,hgd⟩:∃ x,W1.heap.size=x:=⟨_,rfl⟩
  rw[hw3]at hb0 hA hS0;rw[hgd]at hA;clear hbz;go_simp
  go_wp2_with fail
  try rw[hw3]
  try rw[hgd]
  replace hS0:=hS0.out;refine hK.out _ _ (fun _=>hS0) (fun _=>?_);clear hK hw3 hgd;try simp only[Act.put,Sa,Sb,Sc]
  refine Ab (rs:=[2]) (by kernel_rfl) (by simp) ?_;refine Aa.cons (Au rfl) (fun K hK=>?_) Aa.nil;go_simp
  go_at_call 71
  refine(hC.out _ hb0.out).mono ?_;rintro e w3 ⟨px,vc,vw,vo,pl,rfl,hE⟩;have hB2:=hE.b;replace hS0:(fun W'=>W'.cell? ⟨W.heap.size,0,none⟩=some (.slice Al ml cl)∧W'.cell? ⟨W.heap.size,1,none⟩=some (.int .i64 lk)∧W'.cell? ⟨W.heap.size,2,none⟩=some (.int .i64 ul)∧W'.cell? ⟨W.heap.size,3,none⟩=some (.slice As ms cs)∧W'.cell? ⟨W.heap.size,4,none⟩=some (.slice Ai mi ci)∧W'.cell? ⟨W.heap.size,5,none⟩=some (.int .i64 0)∧W'.cell? ⟨W.heap.size,6,none⟩=some (.slice Ar mr cr)) w3:=⟨Ck hB2 hS0.1,Ck hB2 hS0.2.1,Ck hB2 hS0.2.2.1,Ck hB2 hS0.2.2.2.1,Ck hB2 hS0.2.2.2.2.1,Ck hB2 hS0.2.2.2.2.2.1,Ck hB2 hS0.2.2.2.2.2.2⟩
  replace hA:=Az (show BL w3 W.heap.size _ _ from Om hA.out (fun k hk=>hB2.block k (Ol hA.out k hk)));replace hE:=hE.low hb0.out hlf.out;replace hE:=Az hE;clear hC hB2;go_wp2_with fail
  refine hK.out _ _ (fun _=>hS0) (fun _=>?_);clear hK;try simp only[Act.put,Sa,Sb,Sc]
  refine tY 5 (fun _=>hS0) ?_;refine Ab (rs:=[6]) (by kernel_rfl) (by simp) ?_;refine Aa.cons (Au rfl) (fun K hK=>?_) Aa.nil;have hbx:=Bw w3 (.cells #[.pointer (some ⟨px,0,none⟩),.slice (some ⟨gd,0,none⟩) n n,.slice none 0 0,.int .i64 0] 90);have hRn:C5 W (w3.alloc (.cells #[.pointer (some ⟨px,0,none⟩),.slice (some ⟨gd,0,none⟩) n n,.slice none 0 0,.int .i64 0] 90)) w3.heap.size px (.slice Al ml cl) vc vw vo pl (.slice (some ⟨gd,0,none⟩) n n) (.slice none 0 0) (AH.new fin n) :=
   ⟨hE.out.keep hbx,hE.out.hz,Bv _ _,Om hA.out (fun k hk=>hbx.block k (Ol hA.out k hk)),⟨rfl,.inl ⟨rfl,rfl⟩⟩⟩
  replace hS0:(fun W'=>W'.cell? ⟨W.heap.size,0,none⟩=some (.slice Al ml cl)∧W'.cell? ⟨W.heap.size,1,none⟩=some (.int .i64 lk)∧W'.cell? ⟨W.heap.size,2,none⟩=some (.int .i64 ul)∧W'.cell? ⟨W.heap.size,3,none⟩=some (.slice As ms cs)∧W'.cell? ⟨W.heap.size,4,none⟩=some (.slice Ai mi ci)∧W'.cell? ⟨W.heap.size,5,none⟩=some (.int .i64 0)∧W'.cell? ⟨W.heap.size,6,none⟩=some (.slice Ar mr cr)) (w3.alloc (.cells #[.pointer (some ⟨px,0,none⟩),.slice (some ⟨gd,0,none⟩) n n,.slice none 0 0,.int .i64 0] 90)):=⟨Ck hbx hS0.1,Ck hbx hS0.2.1,Ck hbx hS0.2.2.1,Ck hbx hS0.2.2.2.1,Ck hbx hS0.2.2.2.2.1,Ck hbx hS0.2.2.2.2.2.1,Ck hbx hS0.2.2.2.2.2.2⟩
  replace hRn:=Az hRn;replace hS0:=Az hS0;obtain⟨w4,hw4⟩:∃ X,w3.alloc (.cells #[.pointer (some ⟨px,0,none⟩),.slice (some ⟨gd,0,none⟩) n n,.slice none 0 0,.int .i64 0] 90)=X:=⟨_,rfl⟩
  obtain⟨pr,HX⟩:∃ x,w3.heap.size=x:=⟨_,rfl⟩
  rw[hw4,HX]at hRn;rw[hw4]at hS0;clear hbx hE hA;go_simp
  go_wp2_with fail
  try rw[hw4]
  try rw[HX]
  refine hK.out _ _ (fun _=>hS0.out) (fun _=>?_);clear hK hw4 HX;try simp only[Act.put,Sa,Sb,Sc]
  refine tY 7 (fun _=>hS0.out) ?_;refine Ax (by kernel_rfl) ?_ _;clear hS0;go_wp2;go_ret;first |exact⟨_,_,_,_,_,_,_,rfl,hRn.out⟩ |exact⟨_,rfl,_,_,_,_,_,_,hRn.out⟩ |exact⟨_,_,_,_,_,_,hRn.out⟩ |exact⟨_,_,_,_,_,_,_,hRn.out⟩ |exact⟨_,_,_,_,_,hRn.out⟩
theorem C5.exec{w W W':World}{pr px:Nat}{vl vc vw vr vd ve:Value}{pl:Option Addr}{r:AH}{x':AF}(h:C5 w W pr px vl vc vw vr pl vd ve r)(hx:CS w W' px vl vc vw vr pl x')(F:BX w.heap.size Ia (fun _=>False) W W') :
  C5 w W' pr px vl vc vw vr pl vd ve {r with x:=x'} :=
 ⟨hx,h.HX,F.FP h.br (by decide) (fun f=>f),F.own h.act (by decide) (fun _ _ f=>f),F.own h.l (by decide) (fun _ _ f=>f)⟩
def Kq(code:List In):Prop:=∀ i∈code,i.op=12→0≤i.k∧i.k<5
def Oq(ms:List Int)(n:Nat):Prop:=(∀ k∈ms,0≤k∧k<5)∧ms.length≤n
theorem Hl(code:List In)(t:Nat)(hm:Kq code):∀ (n:Nat) (c:CoreM) (ms:List Int) (b:Nat),Oq ms b→Oq (runM code t n c ms).2.1 (b+n)
 |0,c,ms,b,h=>⟨h.1,Nat.le_trans h.2 (by omega)⟩
 |n+1,c,ms,b,h=>by
  have h':Oq ms (b+(n+1)):=⟨h.1,Nat.le_trans h.2 (by omega)⟩
  unfold runM;by_cases h1:c.pc<0∨c.pc≥code.length
  ·rw[if_pos h1];exact h'
  ·rw[if_neg h1];by_cases h2:(code.getD c.pc.toNat In.zero).op≥16
   ·rw[if_pos h2];exact h'
   ·rw[if_neg h2];by_cases h3:n=0
    ·rw[if_pos h3];exact h'
    ·rw[if_neg h3];by_cases h4:(code.getD c.pc.toNat In.zero).op=13
     ·rw[if_pos h4];exact h'
     ·rw[if_neg h4];have hp:c.pc.toNat<code.length:=by omega
      have hi:code.getD c.pc.toNat In.zero∈code:=by
       rw[List.getD_eq_getElem?_getD,List.getElem?_eq_getElem hp];exact List.getElem_mem _
      by_cases h5:(code.getD c.pc.toNat In.zero).op=12
      ·rw[if_pos h5];have:=Hl code t hm n (E5 c (code.getD c.pc.toNat In.zero) t) (ms++[(code.getD c.pc.toNat In.zero).k]) (b+1) ⟨fun k hk=>by
        rcases List.mem_append.1 hk with hk |hk
        ·exact h.1 k hk
        ·rw[List.mem_singleton.1 hk];exact hm _ hi h5,by have:=h.2;simp;omega⟩
       exact⟨this.1,Nat.le_trans this.2 (by omega)⟩
      ·rw[if_neg h5];have:=Hl code t hm n (E5 c (code.getD c.pc.toNat In.zero) t) ms b h;exact⟨this.1,Nat.le_trans this.2 (by omega)⟩
theorem go_marks(x:AF)(t:Nat)(c:CoreM)(a:Int)(wr:Nat)(hm:Kq x.pg.l):Oq (x.go t c a wr).2.marks 300:=by
 have:=Hl x.pg.l t hm 257 c [] 0 ⟨by simp,by simp⟩;exact⟨this.1,Nat.le_trans this.2 (by omega)⟩
theorem EA(x:AF)(t:Nat)(u:Bool)(hm:Kq x.pg.l):Oq (x.begin t u).2.marks 300:=go_marks x t _ _ _ hm
theorem GS(x:AF)(t:Nat)(late:Bool)(hm:Kq x.pg.l):Oq (x.step t late).2.marks 300:=by
 have h0:Oq [] 300:=⟨by simp,by simp⟩
 unfold AF.step;dsimp only;split
 ·exact h0
 split
 ·exact h0
 split
 ·exact go_marks _ t _ _ _ hm
 split
 ·split
  ·exact h0
  ·exact go_marks _ t _ _ _ hm
 split
 ·exact h0
 split
 ·exact h0
 ·rename_i r _ _
  refine go_marks _ t _ _ _ ?_;split<;>exact hm
end
end Go.Proofs.YtjjpiefgdggghaaGreatDoor

/- Parts: RunBeg, RefName, RefRightA. -/
import Derived.Test.YtnmahobjmpdkdaaGreatDoorQ02
import Derived.Test.YtnmahobjmpdkdaaGreatDoorQ05
import Derived.Test.YtnmahobjmpdkdaaGreatDoorQ16
import Derived.Test.YtnmahobjmpdkdaaGreatDoorQ17
import Derived.Great.BuildSlice
import Derived.Great.Walk
import Derived.Test.YtnmahobjmpdkdaaGreatDoorQ03
import Derived.Test.YtnmahobjmpdkdaaGreatDoorQ14
import Derived.RegionTactic
import Derived.BigRegion
import Derived.Deep.RegionHeld3
set_option linter.unusedVariables false
set_option linter.unusedSimpArgs false
set_option maxRecDepth 100000
set_option maxHeartbeats 40000000
namespace Go.Proofs.YtnmahobjmpdkdaaGreatDoor
section
open Go.RowKit Go.Proofs.YtnmahobjmpdkdaaGreatDoorW.PrintWords
theorem TM(k:Nat)(hk:k≤1000000):∃ cs:Array Value,cs.size=k∧(∀ j,j<k→cs[j]?=some (.int .i64 0)) ∧
  ∀ W,(Instr.makeSlice 27 (.int .i64 (k:Int)) (.int .i64 (k:Int))).run Tryz.prog W=.ok (.slice (some ⟨W.heap.size,0,none⟩) k k) (W.alloc (.cells cs 3)):=by
 obtain⟨i9,hi,hz0,hz1,hz2⟩:=info_parts Ff;refine⟨madeCells (Value.int .i64 0).cells (k*1),by rw[size_madeCells,Nat.mul_one],fun j hj=>?_,fun W=>?_⟩
 ·simp[madeCells,Value.cells,hj,Nat.mod_one]
 ·have:=run_makeSlice (P:=Tryz.prog) W 27 3 i9 (.int .i64 0) Tryz.underlying27 hi hz0 .i64 .i64 (k:Int) (k:Int) (by omega) (Int.le_refl _) (by rw[hz1];simp;omega) (by rw[hz2];omega) (by omega);rw[hz1]at this
  simpa using this
theorem Jd{W:World}{N g k:Nat}{cs:Array Value}(h:W.heap[g]?=some (.cells cs 3 (0,0)))(hN:N≤g)(hk:k≤1000000)(hs:cs.size=k)(hz:∀ j,j<k→cs[j]?=some (.int .i64 0)):Ce W N (.slice (some ⟨g,0,none⟩) k k) (List.replicate k 0):=by
 have e:cs.toList=List.replicate k (.int .i64 0):=by
  apply List.ext_getElem?
  intro j;rw[Array.getElem?_toList,List.getElem?_replicate];by_cases hj:j<k
  ·rw[if_pos hj,hz j hj]
  ·rw[if_neg hj,Array.getElem?_eq_none (by omega)]
 unfold Ce;rw[List.length_replicate,List.map_replicate];refine⟨by simp,.inr ⟨g,k,cs,rfl,hN,h,Nl _,by simp[maxLen];omega,by omega,?_⟩⟩;rw[e,List.take_replicate];simp
theorem Dm.low{w w1 W:World}{px:Nat}{vl vc vw vr:Value}{pl:Option Addr}{x:AM}(h:Dm w1 W px vl vc vw vr pl x)(hb:Below w.heap.size w w1)(hc:Cj w vl x.pg.l.length (Bu x.pg.l)):Dm w W px vl vc vw vr pl x :=
 ⟨hb.trans (h.b.mono hb.size),Nat.le_trans hb.size h.LA,h.bx,hc,FP h.cells hb.size,FP h.words hb.size,FP h.AQ hb.size,h.ok,h.UT⟩
theorem LO(W:World)(vl vs vi vr:Value)(pg:Pg)(ss is rs:List Nat)(n:Nat)(hl:Cj W vl pg.l.length (Bu pg.l))(hs:Cj W vs ss.length (ss.map fun s:Nat=>Value.int .i64 (s:Int)))
  (hi:Cj W vi is.length (is.map fun v:Nat=>Value.int .u32 v))(hr:Cj W vr rs.length (rs.map fun v:Nat=>Value.int .u32 v))(h8:ss.length≤8)(hle:∀ s∈ss,s≤4096)(DP:ss.sum≤8192)
  (h1:1≤n)(h2:n≤64)(NW:0<is.length)(hi1:is.length≤100000)(hr1:rs.length≤1000)(Q8:∀ v∈is,v<4294967296)(Tb:∀ v∈rs,v<4294967296) :
  Calls Tryz.prog 45 #[.agg #[vl,.int .i64 pg.lock,.int .i64 pg.unlock,vs,vi,.int .i64 0,vr],.int .i64 (n:Int)] W fun e W'=>∃ pr px vc vw vo pl vd,e=.returned (.pointer (some ⟨pr,0,none⟩))∧CZ W W' pr px vl vc vw vo pl vd (.slice none 0 0) (AR.new (AM.new pg ss is n 0 rs) n):=by
 have hC:=Az (fun(W1:World) (hb:Below W.heap.size W W1)=>Oh W1 vl vs vi vr pg ss is rs n (hl.keep hb) (hs.keep hb) (hi.keep hb) (hr.keep hb) h8 hle DP h1 h2 NW hi1 hr1 Q8 Tb);obtain⟨cz,hz0,hz1,hmk⟩:=TM n (by omega);have hb0:=Bw W (.cells #[vl,.int .i64 pg.lock,.int .i64 pg.unlock,vs,vi,.int .i64 0,vr] 30);have hN:=Bv W (.cells #[vl,.int .i64 pg.lock,.int .i64 pg.unlock,vs,vi,.int .i64 0,vr] 30);obtain⟨Ai,ci,rfl⟩:=hi.slice;obtain⟨Ar,cr,rfl⟩:=hr.slice;obtain⟨As,cs,rfl⟩:=hs.slice;obtain⟨Al,cl,rfl⟩:=hl.slice;obtain⟨fin,hfin⟩:∃ x,AM.new pg ss is n 0 rs=x:=⟨_,rfl⟩
 have hlf:Cj W (.slice Al pg.l.length cl) fin.pg.l.length (Bu fin.pg.l):=by rw[←hfin];exact hl
 rw[hfin]at hC ⊢;clear hl hs hi hr h8 hle DP NW hi1 hr1 Q8 Tb hfin;generalize pg.l.length=ml at *;generalize pg.lock=lk at *;generalize pg.unlock=ul at *;generalize ss.length=ms at *;generalize is.length=mi at *;generalize rs.length=mr at *;obtain⟨W1,hW1⟩:∃ X,W.alloc (.cells #[.slice Al ml cl,.int .i64 lk,.int .i64 ul,.slice As ms cs,.slice Ai mi ci,.int .i64 0,.slice Ar mr cr] 30)=X:=⟨_,rfl⟩
 rw[hW1]at hb0 hN;have hz2:n≤1000000:=by omega
 replace hlf:=Az hlf;replace hz0:=Az hz0;replace hz1:=Az hz1;replace hz2:=Az hz2;clear h1 h2;go_enter Tryz.func45,Tryz.ntmps45;go_upto_region 1 with fail
 try rw[hW1]
 clear hW1;have hS5:(fun W'=>W'.cell? ⟨W.heap.size,0,none⟩=some (.slice Al ml cl)∧W'.cell? ⟨W.heap.size,1,none⟩=some (.int .i64 lk)∧W'.cell? ⟨W.heap.size,2,none⟩=some (.int .i64 ul)∧W'.cell? ⟨W.heap.size,3,none⟩=some (.slice As ms cs)∧W'.cell? ⟨W.heap.size,4,none⟩=some (.slice Ai mi ci)∧W'.cell? ⟨W.heap.size,5,none⟩=some (.int .i64 0)∧W'.cell? ⟨W.heap.size,6,none⟩=some (.slice Ar mr cr)) W1.drew:=⟨(Bc (Be hN) 0).trans rfl,(Bc (Be hN) 1).trans rfl,(Bc (Be hN) 2).trans rfl,(Bc (Be hN) 3).trans rfl,(Bc (Be hN) 4).trans rfl,(Bc (Be hN) 5).trans rfl,(Bc (Be hN) 6).trans rfl⟩
 refine Ay [] (S:=fun W'=>W'.cell? ⟨W.heap.size,0,none⟩=some (.slice Al ml cl)∧W'.cell? ⟨W.heap.size,1,none⟩=some (.int .i64 lk)∧W'.cell? ⟨W.heap.size,2,none⟩=some (.int .i64 ul)∧W'.cell? ⟨W.heap.size,3,none⟩=some (.slice As ms cs)∧W'.cell? ⟨W.heap.size,4,none⟩=some (.slice Ai mi ci)∧W'.cell? ⟨W.heap.size,5,none⟩=some (.int .i64 0)∧W'.cell? ⟨W.heap.size,6,none⟩=some (.slice Ar mr cr)) (by kernel_rfl) hS5 (fun hS0=>?_);replace hb0:=Az (hb0.trans (Bd (Below.refl _ W1)));clear hS5 hN;generalize W1.drew=W1 at *;try simp only[Act.put,Sa,Sb,Sc]
 refine tY 1 (fun _=>hS0) ?_;refine tL 0 (hS0) ?_;refine tY 3 (fun _=>hS0) ?_;refine Ab (rs:=[2,4]) (by kernel_rfl) (by simp) ?_;refine Aa.cons (An rfl) (fun K hK=>?_) (Aa.cons (An rfl) (fun K hK=>?_) Aa.nil)
 ·go_simp
  go_at_call 66
  refine(hC.out _ hb0.out).mono ?_;rintro e w2 ⟨px,vc,vw,vo,pl,rfl,hE⟩;have hB2:=hE.b;replace hS0:(fun W'=>W'.cell? ⟨W.heap.size,0,none⟩=some (.slice Al ml cl)∧W'.cell? ⟨W.heap.size,1,none⟩=some (.int .i64 lk)∧W'.cell? ⟨W.heap.size,2,none⟩=some (.int .i64 ul)∧W'.cell? ⟨W.heap.size,3,none⟩=some (.slice As ms cs)∧W'.cell? ⟨W.heap.size,4,none⟩=some (.slice Ai mi ci)∧W'.cell? ⟨W.heap.size,5,none⟩=some (.int .i64 0)∧W'.cell? ⟨W.heap.size,6,none⟩=some (.slice Ar mr cr)) w2:=⟨Ck hB2 hS0.1,Ck hB2 hS0.2.1,Ck hB2 hS0.2.2.1,Ck hB2 hS0.2.2.2.1,Ck hB2 hS0.2.2.2.2.1,Ck hB2 hS0.2.2.2.2.2.1,Ck hB2 hS0.2.2.2.2.2.2⟩
  replace hE:=hE.low hb0.out hlf.out;replace hb0:=Az hE.b;replace hE:=Az hE;clear hC hB2;go_wp2_with fail
  refine hK.out _ _ (fun _=>hS0) (fun _=>?_);clear hK;try simp only[Act.put,Sa,Sb,Sc]
  refine Ab (rs:=[4]) (by kernel_rfl) (by simp) ?_;refine Aa.cons (An rfl) (fun K hK=>?_) Aa.nil;have hbz:=Bw w2 (.cells cz 3);have hA:=Jd (N:=W.heap.size) (Bv w2 (.cells cz 3)) hE.out.hz hz2.out hz0.out hz1.out;replace hS0:(fun W'=>W'.cell? ⟨W.heap.size,0,none⟩=some (.slice Al ml cl)∧W'.cell? ⟨W.heap.size,1,none⟩=some (.int .i64 lk)∧W'.cell? ⟨W.heap.size,2,none⟩=some (.int .i64 ul)∧W'.cell? ⟨W.heap.size,3,none⟩=some (.slice As ms cs)∧W'.cell? ⟨W.heap.size,4,none⟩=some (.slice Ai mi ci)∧W'.cell? ⟨W.heap.size,5,none⟩=some (.int .i64 0)∧W'.cell? ⟨W.heap.size,6,none⟩=some (.slice Ar mr cr)) (w2.alloc (.cells cz 3)):=⟨Ck hbz hS0.1,Ck hbz hS0.2.1,Ck hbz hS0.2.2.1,Ck hbz hS0.2.2.2.1,Ck hbz hS0.2.2.2.2.1,Ck hbz hS0.2.2.2.2.2.1,Ck hbz hS0.2.2.2.2.2.2⟩
  replace hE:=Az (hE.out.keep hbz);replace hS0:=Az hS0;replace hA:=Az hA;obtain⟨w3,hw3⟩:∃ X,w2.alloc (.cells cz 3)=X:=⟨_,rfl⟩
  obtain⟨gd,hgd⟩:∃ x,w2.heap.size=x:=⟨_,rfl⟩
  rw[hw3]at hE hA hS0;rw[hgd]at hA;clear hbz;go_simp
  go_wp2_with fail
  try rw[hw3]
  try rw[hgd]
  replace hS0:=hS0.out;refine hK.out _ _ (fun _=>hS0) (fun _=>?_);clear hK hw3 hgd;try simp only[Act.put,Sa,Sb,Sc]
  refine tY 5 (fun _=>hS0) ?_;refine Ab (rs:=[6]) (by kernel_rfl) (by simp) ?_;refine Aa.cons (An rfl) (fun K hK=>?_) Aa.nil;have hbx:=Bw w3 (.cells #[.pointer (some ⟨px,0,none⟩),.slice (some ⟨gd,0,none⟩) n n,.slice none 0 0,.int .i64 0] 75);have hRn:CZ W (w3.alloc (.cells #[.pointer (some ⟨px,0,none⟩),.slice (some ⟨gd,0,none⟩) n n,.slice none 0 0,.int .i64 0] 75)) w3.heap.size px (.slice Al ml cl) vc vw vo pl (.slice (some ⟨gd,0,none⟩) n n) (.slice none 0 0) (AR.new fin n) :=
   ⟨hE.out.keep hbx,hE.out.hz,Bv _ _,Om hA.out (fun k hk=>hbx.block k (Ol hA.out k hk)),⟨rfl,.inl ⟨rfl,rfl⟩⟩⟩
  replace hS0:(fun W'=>W'.cell? ⟨W.heap.size,0,none⟩=some (.slice Al ml cl)∧W'.cell? ⟨W.heap.size,1,none⟩=some (.int .i64 lk)∧W'.cell? ⟨W.heap.size,2,none⟩=some (.int .i64 ul)∧W'.cell? ⟨W.heap.size,3,none⟩=some (.slice As ms cs)∧W'.cell? ⟨W.heap.size,4,none⟩=some (.slice Ai mi ci)∧W'.cell? ⟨W.heap.size,5,none⟩=some (.int .i64 0)∧W'.cell? ⟨W.heap.size,6,none⟩=some (.slice Ar mr cr)) (w3.alloc (.cells #[.pointer (some ⟨px,0,none⟩),.slice (some ⟨gd,0,none⟩) n n,.slice none 0 0,.int .i64 0] 75)):=⟨Ck hbx hS0.1,Ck hbx hS0.2.1,Ck hbx hS0.2.2.1,Ck hbx hS0.2.2.2.1,Ck hbx hS0.2.2.2.2.1,Ck hbx hS0.2.2.2.2.2.1,Ck hbx hS0.2.2.2.2.2.2⟩
  replace hRn:=Az hRn;replace hS0:=Az hS0;obtain⟨w4,hw4⟩:∃ X,w3.alloc (.cells #[.pointer (some ⟨px,0,none⟩),.slice (some ⟨gd,0,none⟩) n n,.slice none 0 0,.int .i64 0] 75)=X:=⟨_,rfl⟩
  obtain⟨pr,IH⟩:∃ x,w3.heap.size=x:=⟨_,rfl⟩
  rw[hw4,IH]at hRn;rw[hw4]at hS0;clear hbx hE hA;go_simp
  go_wp2_with fail
  try rw[hw4]
  try rw[IH]
  refine hK.out _ _ (fun _=>hS0.out) (fun _=>?_);clear hK hw4 IH;try simp only[Act.put,Sa,Sb,Sc]
  refine tY 7 (fun _=>hS0.out) ?_;refine AE (by kernel_rfl) ?_ _;clear hS0;go_wp2;go_ret;first |exact⟨_,_,_,_,_,_,_,rfl,hRn.out⟩ |exact⟨_,rfl,_,_,_,_,_,_,hRn.out⟩ |exact⟨_,_,_,_,_,_,hRn.out⟩ |exact⟨_,_,_,_,_,_,_,hRn.out⟩ |exact⟨_,_,_,_,_,hRn.out⟩
 ·have hbz:=Bw W1 (.cells cz 3);have hA:=Jd (N:=W.heap.size) (Bv W1 (.cells cz 3)) hb0.out.size hz2.out hz0.out hz1.out;replace hS0:(fun W'=>W'.cell? ⟨W.heap.size,0,none⟩=some (.slice Al ml cl)∧W'.cell? ⟨W.heap.size,1,none⟩=some (.int .i64 lk)∧W'.cell? ⟨W.heap.size,2,none⟩=some (.int .i64 ul)∧W'.cell? ⟨W.heap.size,3,none⟩=some (.slice As ms cs)∧W'.cell? ⟨W.heap.size,4,none⟩=some (.slice Ai mi ci)∧W'.cell? ⟨W.heap.size,5,none⟩=some (.int .i64 0)∧W'.cell? ⟨W.heap.size,6,none⟩=some (.slice Ar mr cr)) (W1.alloc (.cells cz 3)):=⟨Ck hbz hS0.1,Ck hbz hS0.2.1,Ck hbz hS0.2.2.1,Ck hbz hS0.2.2.2.1,Ck hbz hS0.2.2.2.2.1,Ck hbz hS0.2.2.2.2.2.1,Ck hbz hS0.2.2.2.2.2.2⟩
  replace hb0:=Az (hb0.out.trans (hbz.mono hb0.out.size));replace hS0:=Az hS0;replace hA:=Az hA;obtain⟨w2,hw3⟩:∃ X,W1.alloc (.cells cz 3)=X:=⟨_,rfl⟩
  obtain⟨gd,hgd⟩:∃ x,W1.heap.size=x:=⟨_,rfl⟩
  rw[hw3]at hb0 hA hS0;rw[hgd]at hA;clear hbz;go_simp
  go_wp2_with fail
  try rw[hw3]
  try rw[hgd]
  replace hS0:=hS0.out;refine hK.out _ _ (fun _=>hS0) (fun _=>?_);clear hK hw3 hgd;try simp only[Act.put,Sa,Sb,Sc]
  refine Ab (rs:=[2]) (by kernel_rfl) (by simp) ?_;refine Aa.cons (An rfl) (fun K hK=>?_) Aa.nil;go_simp
  go_at_call 66
  refine(hC.out _ hb0.out).mono ?_;rintro e w3 ⟨px,vc,vw,vo,pl,rfl,hE⟩;have hB2:=hE.b;replace hS0:(fun W'=>W'.cell? ⟨W.heap.size,0,none⟩=some (.slice Al ml cl)∧W'.cell? ⟨W.heap.size,1,none⟩=some (.int .i64 lk)∧W'.cell? ⟨W.heap.size,2,none⟩=some (.int .i64 ul)∧W'.cell? ⟨W.heap.size,3,none⟩=some (.slice As ms cs)∧W'.cell? ⟨W.heap.size,4,none⟩=some (.slice Ai mi ci)∧W'.cell? ⟨W.heap.size,5,none⟩=some (.int .i64 0)∧W'.cell? ⟨W.heap.size,6,none⟩=some (.slice Ar mr cr)) w3:=⟨Ck hB2 hS0.1,Ck hB2 hS0.2.1,Ck hB2 hS0.2.2.1,Ck hB2 hS0.2.2.2.1,Ck hB2 hS0.2.2.2.2.1,Ck hB2 hS0.2.2.2.2.2.1,Ck hB2 hS0.2.2.2.2.2.2⟩
  replace hA:=Az (show Ce w3 W.heap.size _ _ from Om hA.out (fun k hk=>hB2.block k (Ol hA.out k hk)));replace hE:=hE.low hb0.out hlf.out;replace hE:=Az hE;clear hC hB2;go_wp2_with fail
  refine hK.out _ _ (fun _=>hS0) (fun _=>?_);clear hK;try simp only[Act.put,Sa,Sb,Sc]
  refine tY 5 (fun _=>hS0) ?_;refine Ab (rs:=[6]) (by kernel_rfl) (by simp) ?_;refine Aa.cons (An rfl) (fun K hK=>?_) Aa.nil;have hbx:=Bw w3 (.cells #[.pointer (some ⟨px,0,none⟩),.slice (some ⟨gd,0,none⟩) n n,.slice none 0 0,.int .i64 0] 75);have hRn:CZ W (w3.alloc (.cells #[.pointer (some ⟨px,0,none⟩),.slice (some ⟨gd,0,none⟩) n n,.slice none 0 0,.int .i64 0] 75)) w3.heap.size px (.slice Al ml cl) vc vw vo pl (.slice (some ⟨gd,0,none⟩) n n) (.slice none 0 0) (AR.new fin n) :=
   ⟨hE.out.keep hbx,hE.out.hz,Bv _ _,Om hA.out (fun k hk=>hbx.block k (Ol hA.out k hk)),⟨rfl,.inl ⟨rfl,rfl⟩⟩⟩
  replace hS0:(fun W'=>W'.cell? ⟨W.heap.size,0,none⟩=some (.slice Al ml cl)∧W'.cell? ⟨W.heap.size,1,none⟩=some (.int .i64 lk)∧W'.cell? ⟨W.heap.size,2,none⟩=some (.int .i64 ul)∧W'.cell? ⟨W.heap.size,3,none⟩=some (.slice As ms cs)∧W'.cell? ⟨W.heap.size,4,none⟩=some (.slice Ai mi ci)∧W'.cell? ⟨W.heap.size,5,none⟩=some (.int .i64 0)∧W'.cell? ⟨W.heap.size,6,none⟩=some (.slice Ar mr cr)) (w3.alloc (.cells #[.pointer (some ⟨px,0,none⟩),.slice (some ⟨gd,0,none⟩) n n,.slice none 0 0,.int .i64 0] 75)):=⟨Ck hbx hS0.1,Ck hbx hS0.2.1,Ck hbx hS0.2.2.1,Ck hbx hS0.2.2.2.1,Ck hbx hS0.2.2.2.2.1,Ck hbx hS0.2.2.2.2.2.1,Ck hbx hS0.2.2.2.2.2.2⟩
  replace hRn:=Az hRn;replace hS0:=Az hS0;obtain⟨w4,hw4⟩:∃ X,w3.alloc (.cells #[.pointer (some ⟨px,0,none⟩),.slice (some ⟨gd,0,none⟩) n n,.slice none 0 0,.int .i64 0] 75)=X:=⟨_,rfl⟩
  obtain⟨pr,IH⟩:∃ x,w3.heap.size=x:=⟨_,rfl⟩
  rw[hw4,IH]at hRn;rw[hw4]at hS0;clear hbx hE hA;go_simp
  go_wp2_with fail
  try rw[hw4]
  try rw[IH]
  refine hK.out _ _ (fun _=>hS0.out) (fun _=>?_);clear hK hw4 IH;try simp only[Act.put,Sa,Sb,Sc]
  refine tY 7 (fun _=>hS0.out) ?_;refine AE (by kernel_rfl) ?_ _;clear hS0;go_wp2;go_ret;first |exact⟨_,_,_,_,_,_,_,rfl,hRn.out⟩ |exact⟨_,rfl,_,_,_,_,_,_,hRn.out⟩ |exact⟨_,_,_,_,_,_,hRn.out⟩ |exact⟨_,_,_,_,_,_,_,hRn.out⟩ |exact⟨_,_,_,_,_,hRn.out⟩
theorem At(n:Int)(h:0≤n∧n≤7)(w:World) :
  Calls Tryz.prog 81 #[.int .i64 n] w fun e w'=>e=.returned (.bool true)∧w=w':=by
 obtain⟨h1,h2⟩:=h;go_enter Tryz.func81,Tryz.ntmps81;go_wp2;go_ret;exact⟨by simp;try omega,rfl⟩
theorem KY(n:Int)(h:¬(0≤n∧n≤7))(w:World) :
  Calls Tryz.prog 81 #[.int .i64 n] w fun e w'=>e=.returned (.bool false)∧w=w':=by
 by_cases h1:0≤n
 ·have h2:¬n≤7:=fun x=>h ⟨h1,x⟩
  go_enter Tryz.func81,Tryz.ntmps81;go_wp2;go_ret;exact⟨by simp;try omega,rfl⟩
 ·go_enter Tryz.func81,Tryz.ntmps81;go_wp2;go_ret;exact⟨by simp;try omega,rfl⟩
def Fz:Array Value:=#[.string ⟨#[]⟩,.string ⟨#[99,111,110,115,116]⟩,.string ⟨#[109,111,118,101]⟩,.string ⟨#[97,100,100,107]⟩,.string ⟨#[97,110,100,107]⟩,.string ⟨#[115,104,108]⟩,.string ⟨#[115,104,114]⟩,.string ⟨#[111,114]⟩,.string ⟨#[98,101,113]⟩,.string ⟨#[98,110,101]⟩,.string ⟨#[106,117,109,112]⟩,.string ⟨#[115,101,108,102]⟩,.string ⟨#[109,97,114,107]⟩,.string ⟨#[100,111,110,101]⟩,.string ⟨#[]⟩,.string ⟨#[]⟩,.string ⟨#[108,111,97,100]⟩,.string ⟨#[115,116,111,114,101]⟩,.string ⟨#[115,119,97,112]⟩,.string ⟨#[99,97,115]⟩,.string ⟨#[102,97,100,100]⟩,.string ⟨#[97,119,97,105,116]⟩,.string ⟨#[116,97,107,101]⟩,.string ⟨#[102,114,101,101]⟩]
theorem Qq(n:Nat)(h1:1≤n)(h2:n≤23):Fz[n]?=some (.string ⟨(Aj (n:Int)).toArray⟩):=by
 have:n=1∨n=2∨n=3∨n=4∨n=5∨n=6∨n=7∨n=8∨n=9∨n=10∨n=11∨n=12∨n=13∨n=14∨n=15∨n=16∨n=17∨n=18∨n=19∨n=20∨n=21∨n=22∨n=23:=by omega
 rcases this with rfl |rfl |rfl |rfl |rfl |rfl |rfl |rfl |rfl |rfl |rfl |rfl |rfl |rfl |rfl |rfl |rfl |rfl |rfl |rfl |rfl |rfl |rfl<;>rfl
theorem AA(op:Int)(w:World) :
  Calls Tryz.prog 80 #[.int .i64 op] w fun e w'=>e=.returned (.string ⟨(Aj op).toArray⟩)∧Below w.heap.size w w':=by
 by_cases h:op<1∨23<op
 ·have e:Aj op=[]:=by unfold Aj;repeat (first |rw[if_neg (by omega)] |rfl)
  rw[e];clear e;rcases h with h |h
  ·go_enter Tryz.func80,Tryz.ntmps80;go_wp2_with (first
    |(refine wpList_buildTo rfl 148 _ rfl (some 4) rfl Fz ?b1 ?_;(case b1=>as_aux_lemma=>kernel_rfl))
    |(refine wpList_store_rowTo rfl 148 (.tmp 3) (.tmp 4) rfl rfl w.heap.size Fz ?hx ?hy 148 #[.string ⟨#[]⟩,.string ⟨#[]⟩,.string ⟨#[]⟩,.string ⟨#[]⟩,.string ⟨#[]⟩,.string ⟨#[]⟩,.string ⟨#[]⟩,.string ⟨#[]⟩,.string ⟨#[]⟩,.string ⟨#[]⟩,.string ⟨#[]⟩,.string ⟨#[]⟩,.string ⟨#[]⟩,.string ⟨#[]⟩,.string ⟨#[]⟩,.string ⟨#[]⟩,.string ⟨#[]⟩,.string ⟨#[]⟩,.string ⟨#[]⟩,.string ⟨#[]⟩,.string ⟨#[]⟩,.string ⟨#[]⟩,.string ⟨#[]⟩,.string ⟨#[]⟩] ?hg ?b3 ?b4 ?b5 ?_;(case hx=>rfl);(case hy=>rfl);(case hg=>exact Bv _ _);(case b3=>as_aux_lemma=>kernel_rfl);(case b4=>rfl);(case b5=>as_aux_lemma=>kernel_rfl)))
   go_ret;exact⟨rfl,⟨rfl,rfl,rfl,by simp[World.setRow],fun k hk=>(setRow_other _ _ _ _ (by omega)).trans (Below.heap_alloc _ _ _ hk)⟩⟩
  ·go_enter Tryz.func80,Tryz.ntmps80;go_wp2_with (first
    |(refine wpList_buildTo rfl 148 _ rfl (some 4) rfl Fz ?b1 ?_;(case b1=>as_aux_lemma=>kernel_rfl))
    |(refine wpList_store_rowTo rfl 148 (.tmp 3) (.tmp 4) rfl rfl w.heap.size Fz ?hx ?hy 148 #[.string ⟨#[]⟩,.string ⟨#[]⟩,.string ⟨#[]⟩,.string ⟨#[]⟩,.string ⟨#[]⟩,.string ⟨#[]⟩,.string ⟨#[]⟩,.string ⟨#[]⟩,.string ⟨#[]⟩,.string ⟨#[]⟩,.string ⟨#[]⟩,.string ⟨#[]⟩,.string ⟨#[]⟩,.string ⟨#[]⟩,.string ⟨#[]⟩,.string ⟨#[]⟩,.string ⟨#[]⟩,.string ⟨#[]⟩,.string ⟨#[]⟩,.string ⟨#[]⟩,.string ⟨#[]⟩,.string ⟨#[]⟩,.string ⟨#[]⟩,.string ⟨#[]⟩] ?hg ?b3 ?b4 ?b5 ?_;(case hx=>rfl);(case hy=>rfl);(case hg=>exact Bv _ _);(case b3=>as_aux_lemma=>kernel_rfl);(case b4=>rfl);(case b5=>as_aux_lemma=>kernel_rfl)))
   go_ret;exact⟨rfl,⟨rfl,rfl,rfl,by simp[World.setRow],fun k hk=>(setRow_other _ _ _ _ (by omega)).trans (Below.heap_alloc _ _ _ hk)⟩⟩
 ·obtain⟨n,rfl⟩:=Int.eq_ofNat_of_zero_le (show 0≤op by omega);have h1:1≤n:=by omega
  have h2:n≤23:=by omega
  have hc:((w.alloc (.cells #[.string ⟨#[]⟩,.string ⟨#[]⟩,.string ⟨#[]⟩,.string ⟨#[]⟩,.string ⟨#[]⟩,.string ⟨#[]⟩,.string ⟨#[]⟩,.string ⟨#[]⟩,.string ⟨#[]⟩,.string ⟨#[]⟩,.string ⟨#[]⟩,.string ⟨#[]⟩,.string ⟨#[]⟩,.string ⟨#[]⟩,.string ⟨#[]⟩,.string ⟨#[]⟩,.string ⟨#[]⟩,.string ⟨#[]⟩,.string ⟨#[]⟩,.string ⟨#[]⟩,.string ⟨#[]⟩,.string ⟨#[]⟩,.string ⟨#[]⟩,.string ⟨#[]⟩] 148)).setRow w.heap.size Fz).cell? ⟨w.heap.size,n,none⟩=some (.string ⟨(Aj (n:Int)).toArray⟩):=(cell_setRow_same _ _ _ _ _ _ _ (Bv _ _)).trans (Qq n h1 h2);clear h;go_enter Tryz.func80,Tryz.ntmps80;go_wp2_with (first
   |(refine wpList_buildTo rfl 148 _ rfl (some 4) rfl Fz ?b1 ?_;(case b1=>as_aux_lemma=>kernel_rfl))
   |(refine wpList_store_rowTo rfl 148 (.tmp 3) (.tmp 4) rfl rfl w.heap.size Fz ?hx ?hy 148 #[.string ⟨#[]⟩,.string ⟨#[]⟩,.string ⟨#[]⟩,.string ⟨#[]⟩,.string ⟨#[]⟩,.string ⟨#[]⟩,.string ⟨#[]⟩,.string ⟨#[]⟩,.string ⟨#[]⟩,.string ⟨#[]⟩,.string ⟨#[]⟩,.string ⟨#[]⟩,.string ⟨#[]⟩,.string ⟨#[]⟩,.string ⟨#[]⟩,.string ⟨#[]⟩,.string ⟨#[]⟩,.string ⟨#[]⟩,.string ⟨#[]⟩,.string ⟨#[]⟩,.string ⟨#[]⟩,.string ⟨#[]⟩,.string ⟨#[]⟩,.string ⟨#[]⟩] ?hg ?b3 ?b4 ?b5 ?_;(case hx=>rfl);(case hy=>rfl);(case hg=>exact Bv _ _);(case b3=>as_aux_lemma=>kernel_rfl);(case b4=>rfl);(case b5=>as_aux_lemma=>kernel_rfl)))
  go_ret;exact⟨rfl,⟨rfl,rfl,rfl,by simp[World.setRow],fun k hk=>(setRow_other _ _ _ _ (by omega)).trans (Below.heap_alloc _ _ _ hk)⟩⟩
theorem PW(d s t u a k q places:Int)(w:World)(hd:0≤d∧d≤7)(hs:0≤s∧s≤7)(ht:0≤t∧t≤7)(hu:0≤u∧u≤7)(ha:0≤a∧a≤7)(hk:0≤k∧k≤4294967295) :
  Calls Tryz.prog 64 #[.agg #[.int .i64 1,.int .i64 d,.int .i64 s,.int .i64 t,.int .i64 u,.int .i64 a,.int .u32 k,.int .i64 q],.int .i64 places] w fun e w'=>e=.returned (.bool (AO ⟨1,d,s,t,u,a,k,q⟩ places))∧Below w.heap.size w w':=by
 rw[Tw d s t u a k q places hd hs ht hu ha hk];have keq:∀ W,(binOp .eql 90 (.agg #[.int .i64 1,.int .i64 d,.int .i64 0,.int .i64 0,.int .i64 0,.int .i64 0,.int .u32 k,.int .i64 0]) (.agg #[.int .i64 1,.int .i64 d,.int .i64 s,.int .i64 t,.int .i64 u,.int .i64 a,.int .u32 k,.int .i64 q])).run Tryz.prog W=.ok (.bool (decide ((⟨1,d,0,0,0,0,k,0⟩:In)=⟨1,d,s,t,u,a,k,q⟩))) W:=fun W=>DN ⟨1,d,0,0,0,0,k,0⟩ ⟨1,d,s,t,u,a,k,q⟩ W
 generalize decide ((⟨1,d,0,0,0,0,k,0⟩:In)=⟨1,d,s,t,u,a,k,q⟩)=cmp at keq ⊢;generalize hfin:(cmp)=fin;replace hfin:=Az hfin;go_enter Tryz.func64,Tryz.ntmps64;go_wp2_with fail
 refine(AA 1 _).mono ?_;rintro e w1 ⟨rfl,hb⟩;have BK:=Az (Bk hb (Bv w _));have z:w.heap.size<w1.heap.size:=Bl BK.out;have hbe:Below w.heap.size w w1:=((Below.refl w.heap.size w).alloc (Nl _) _).trans (hb.mono (by simp));replace hbe:=Az hbe;have c0:w1.cell? ⟨w.heap.size,0,none⟩=some (.int .i64 1):=(Bc BK.out 0).trans rfl;have c1:w1.cell? ⟨w.heap.size,1,none⟩=some (.int .i64 d):=(Bc BK.out 1).trans rfl;have c2:w1.cell? ⟨w.heap.size,2,none⟩=some (.int .i64 s):=(Bc BK.out 2).trans rfl;have c3:w1.cell? ⟨w.heap.size,3,none⟩=some (.int .i64 t):=(Bc BK.out 3).trans rfl;have c4:w1.cell? ⟨w.heap.size,4,none⟩=some (.int .i64 u):=(Bc BK.out 4).trans rfl;have c5:w1.cell? ⟨w.heap.size,5,none⟩=some (.int .i64 a):=(Bc BK.out 5).trans rfl;have c6:w1.cell? ⟨w.heap.size,6,none⟩=some (.int .u32 k):=(Bc BK.out 6).trans rfl;have c7:w1.cell? ⟨w.heap.size,7,none⟩=some (.int .i64 q):=(Bc BK.out 7).trans rfl;rw[show Aj 1=[99,111,110,115,116] from rfl];go_wp2_with fail
 refine(At d hd _).mono ?_;rintro e w' ⟨rfl,rfl⟩;go_wp2_with fail
 refine(At s hs _).mono ?_;rintro e w' ⟨rfl,rfl⟩;go_wp2_with fail
 refine(At t ht _).mono ?_;rintro e w' ⟨rfl,rfl⟩;go_wp2_with fail
 refine(At u hu _).mono ?_;rintro e w' ⟨rfl,rfl⟩;go_wp2_with fail
 refine(At a ha _).mono ?_;rintro e w' ⟨rfl,rfl⟩;go_wp2_with fail
 go_region_held3 (fun W=>W.cell? ⟨w.heap.size,1,none⟩=some (.int .i64 d)∧W.cell? ⟨w.heap.size,6,none⟩=some (.int .u32 k)) (go_keep) (fail)
 cases cmp with
 |false =>
  go_wp2;go_ret;refine⟨congrArg (fun b=>Ending.returned (.bool b)) (show false=fin from ?_),?_⟩
  ·first |(rw[←hfin.out];done) |(rw[←hfin.out];simp)
  ·apply_rules [Bd,Below.setCell,Below.alloc,hbe.out]<;>first |omega |(simp;omega)
 |true =>
  go_wp2;go_ret;refine⟨congrArg (fun b=>Ending.returned (.bool b)) (show true=fin from ?_),?_⟩
  ·first |(rw[←hfin.out];done) |(rw[←hfin.out];simp)
  ·apply_rules [Bd,Below.setCell,Below.alloc,hbe.out]<;>first |omega |(simp;omega)
theorem PX(d s t u a k q places:Int)(w:World)(hd:0≤d∧d≤7)(hs:0≤s∧s≤7)(ht:0≤t∧t≤7)(hu:0≤u∧u≤7)(ha:0≤a∧a≤7)(hk:0≤k∧k≤4294967295) :
  Calls Tryz.prog 64 #[.agg #[.int .i64 2,.int .i64 d,.int .i64 s,.int .i64 t,.int .i64 u,.int .i64 a,.int .u32 k,.int .i64 q],.int .i64 places] w fun e w'=>e=.returned (.bool (AO ⟨2,d,s,t,u,a,k,q⟩ places))∧Below w.heap.size w w':=by
 rw[Tx d s t u a k q places hd hs ht hu ha hk];have keq:∀ W,(binOp .eql 90 (.agg #[.int .i64 2,.int .i64 d,.int .i64 s,.int .i64 0,.int .i64 0,.int .i64 0,.int .u32 0,.int .i64 0]) (.agg #[.int .i64 2,.int .i64 d,.int .i64 s,.int .i64 t,.int .i64 u,.int .i64 a,.int .u32 k,.int .i64 q])).run Tryz.prog W=.ok (.bool (decide ((⟨2,d,s,0,0,0,0,0⟩:In)=⟨2,d,s,t,u,a,k,q⟩))) W:=fun W=>DN ⟨2,d,s,0,0,0,0,0⟩ ⟨2,d,s,t,u,a,k,q⟩ W
 generalize decide ((⟨2,d,s,0,0,0,0,0⟩:In)=⟨2,d,s,t,u,a,k,q⟩)=cmp at keq ⊢;generalize hfin:(cmp)=fin;replace hfin:=Az hfin;go_enter Tryz.func64,Tryz.ntmps64;go_wp2_with fail
 refine(AA 2 _).mono ?_;rintro e w1 ⟨rfl,hb⟩;have BK:=Az (Bk hb (Bv w _));have z:w.heap.size<w1.heap.size:=Bl BK.out;have hbe:Below w.heap.size w w1:=((Below.refl w.heap.size w).alloc (Nl _) _).trans (hb.mono (by simp));replace hbe:=Az hbe;have c0:w1.cell? ⟨w.heap.size,0,none⟩=some (.int .i64 2):=(Bc BK.out 0).trans rfl;have c1:w1.cell? ⟨w.heap.size,1,none⟩=some (.int .i64 d):=(Bc BK.out 1).trans rfl;have c2:w1.cell? ⟨w.heap.size,2,none⟩=some (.int .i64 s):=(Bc BK.out 2).trans rfl;have c3:w1.cell? ⟨w.heap.size,3,none⟩=some (.int .i64 t):=(Bc BK.out 3).trans rfl;have c4:w1.cell? ⟨w.heap.size,4,none⟩=some (.int .i64 u):=(Bc BK.out 4).trans rfl;have c5:w1.cell? ⟨w.heap.size,5,none⟩=some (.int .i64 a):=(Bc BK.out 5).trans rfl;have c6:w1.cell? ⟨w.heap.size,6,none⟩=some (.int .u32 k):=(Bc BK.out 6).trans rfl;have c7:w1.cell? ⟨w.heap.size,7,none⟩=some (.int .i64 q):=(Bc BK.out 7).trans rfl;rw[show Aj 2=[109,111,118,101] from rfl];go_wp2_with fail
 refine(At d hd _).mono ?_;rintro e w' ⟨rfl,rfl⟩;go_wp2_with fail
 refine(At s hs _).mono ?_;rintro e w' ⟨rfl,rfl⟩;go_wp2_with fail
 refine(At t ht _).mono ?_;rintro e w' ⟨rfl,rfl⟩;go_wp2_with fail
 refine(At u hu _).mono ?_;rintro e w' ⟨rfl,rfl⟩;go_wp2_with fail
 refine(At a ha _).mono ?_;rintro e w' ⟨rfl,rfl⟩;go_wp2_with fail
 go_region_held3 (fun W=>W.cell? ⟨w.heap.size,1,none⟩=some (.int .i64 d)∧W.cell? ⟨w.heap.size,2,none⟩=some (.int .i64 s)) (go_keep) (fail)
 cases cmp with
 |false =>
  go_wp2;go_ret;refine⟨congrArg (fun b=>Ending.returned (.bool b)) (show false=fin from ?_),?_⟩
  ·first |(rw[←hfin.out];done) |(rw[←hfin.out];simp)
  ·apply_rules [Bd,Below.setCell,Below.alloc,hbe.out]<;>first |omega |(simp;omega)
 |true =>
  go_wp2;go_ret;refine⟨congrArg (fun b=>Ending.returned (.bool b)) (show true=fin from ?_),?_⟩
  ·first |(rw[←hfin.out];done) |(rw[←hfin.out];simp)
  ·apply_rules [Bd,Below.setCell,Below.alloc,hbe.out]<;>first |omega |(simp;omega)
theorem PY(d s t u a k q places:Int)(w:World)(hd:0≤d∧d≤7)(hs:0≤s∧s≤7)(ht:0≤t∧t≤7)(hu:0≤u∧u≤7)(ha:0≤a∧a≤7)(hk:0≤k∧k≤4294967295) :
  Calls Tryz.prog 64 #[.agg #[.int .i64 3,.int .i64 d,.int .i64 s,.int .i64 t,.int .i64 u,.int .i64 a,.int .u32 k,.int .i64 q],.int .i64 places] w fun e w'=>e=.returned (.bool (AO ⟨3,d,s,t,u,a,k,q⟩ places))∧Below w.heap.size w w':=by
 rw[Ty d s t u a k q places hd hs ht hu ha hk];have keq:∀ W,(binOp .eql 90 (.agg #[.int .i64 3,.int .i64 d,.int .i64 s,.int .i64 0,.int .i64 0,.int .i64 0,.int .u32 k,.int .i64 0]) (.agg #[.int .i64 3,.int .i64 d,.int .i64 s,.int .i64 t,.int .i64 u,.int .i64 a,.int .u32 k,.int .i64 q])).run Tryz.prog W=.ok (.bool (decide ((⟨3,d,s,0,0,0,k,0⟩:In)=⟨3,d,s,t,u,a,k,q⟩))) W:=fun W=>DN ⟨3,d,s,0,0,0,k,0⟩ ⟨3,d,s,t,u,a,k,q⟩ W
 generalize decide ((⟨3,d,s,0,0,0,k,0⟩:In)=⟨3,d,s,t,u,a,k,q⟩)=cmp at keq ⊢;generalize hfin:(cmp)=fin;replace hfin:=Az hfin;go_enter Tryz.func64,Tryz.ntmps64;go_wp2_with fail
 refine(AA 3 _).mono ?_;rintro e w1 ⟨rfl,hb⟩;have BK:=Az (Bk hb (Bv w _));have z:w.heap.size<w1.heap.size:=Bl BK.out;have hbe:Below w.heap.size w w1:=((Below.refl w.heap.size w).alloc (Nl _) _).trans (hb.mono (by simp));replace hbe:=Az hbe;have c0:w1.cell? ⟨w.heap.size,0,none⟩=some (.int .i64 3):=(Bc BK.out 0).trans rfl;have c1:w1.cell? ⟨w.heap.size,1,none⟩=some (.int .i64 d):=(Bc BK.out 1).trans rfl;have c2:w1.cell? ⟨w.heap.size,2,none⟩=some (.int .i64 s):=(Bc BK.out 2).trans rfl;have c3:w1.cell? ⟨w.heap.size,3,none⟩=some (.int .i64 t):=(Bc BK.out 3).trans rfl;have c4:w1.cell? ⟨w.heap.size,4,none⟩=some (.int .i64 u):=(Bc BK.out 4).trans rfl;have c5:w1.cell? ⟨w.heap.size,5,none⟩=some (.int .i64 a):=(Bc BK.out 5).trans rfl;have c6:w1.cell? ⟨w.heap.size,6,none⟩=some (.int .u32 k):=(Bc BK.out 6).trans rfl;have c7:w1.cell? ⟨w.heap.size,7,none⟩=some (.int .i64 q):=(Bc BK.out 7).trans rfl;rw[show Aj 3=[97,100,100,107] from rfl];go_wp2_with fail
 refine(At d hd _).mono ?_;rintro e w' ⟨rfl,rfl⟩;go_wp2_with fail
 refine(At s hs _).mono ?_;rintro e w' ⟨rfl,rfl⟩;go_wp2_with fail
 refine(At t ht _).mono ?_;rintro e w' ⟨rfl,rfl⟩;go_wp2_with fail
 refine(At u hu _).mono ?_;rintro e w' ⟨rfl,rfl⟩;go_wp2_with fail
 refine(At a ha _).mono ?_;rintro e w' ⟨rfl,rfl⟩;go_wp2_with fail
 go_region_held3 (fun W=>W.cell? ⟨w.heap.size,1,none⟩=some (.int .i64 d)∧W.cell? ⟨w.heap.size,2,none⟩=some (.int .i64 s)∧W.cell? ⟨w.heap.size,6,none⟩=some (.int .u32 k)) (go_keep) (fail)
 cases cmp with
 |false =>
  go_wp2;go_ret;refine⟨congrArg (fun b=>Ending.returned (.bool b)) (show false=fin from ?_),?_⟩
  ·first |(rw[←hfin.out];done) |(rw[←hfin.out];simp)
  ·apply_rules [Bd,Below.setCell,Below.alloc,hbe.out]<;>first |omega |(simp;omega)
 |true =>
  go_wp2;go_ret;refine⟨congrArg (fun b=>Ending.returned (.bool b)) (show true=fin from ?_),?_⟩
  ·first |(rw[←hfin.out];done) |(rw[←hfin.out];simp)
  ·apply_rules [Bd,Below.setCell,Below.alloc,hbe.out]<;>first |omega |(simp;omega)
theorem PZ(d s t u a k q places:Int)(w:World)(hd:0≤d∧d≤7)(hs:0≤s∧s≤7)(ht:0≤t∧t≤7)(hu:0≤u∧u≤7)(ha:0≤a∧a≤7)(hk:0≤k∧k≤4294967295) :
  Calls Tryz.prog 64 #[.agg #[.int .i64 4,.int .i64 d,.int .i64 s,.int .i64 t,.int .i64 u,.int .i64 a,.int .u32 k,.int .i64 q],.int .i64 places] w fun e w'=>e=.returned (.bool (AO ⟨4,d,s,t,u,a,k,q⟩ places))∧Below w.heap.size w w':=by
 rw[Tz d s t u a k q places hd hs ht hu ha hk];have keq:∀ W,(binOp .eql 90 (.agg #[.int .i64 4,.int .i64 d,.int .i64 s,.int .i64 0,.int .i64 0,.int .i64 0,.int .u32 k,.int .i64 0]) (.agg #[.int .i64 4,.int .i64 d,.int .i64 s,.int .i64 t,.int .i64 u,.int .i64 a,.int .u32 k,.int .i64 q])).run Tryz.prog W=.ok (.bool (decide ((⟨4,d,s,0,0,0,k,0⟩:In)=⟨4,d,s,t,u,a,k,q⟩))) W:=fun W=>DN ⟨4,d,s,0,0,0,k,0⟩ ⟨4,d,s,t,u,a,k,q⟩ W
 generalize decide ((⟨4,d,s,0,0,0,k,0⟩:In)=⟨4,d,s,t,u,a,k,q⟩)=cmp at keq ⊢;generalize hfin:(cmp)=fin;replace hfin:=Az hfin;go_enter Tryz.func64,Tryz.ntmps64;go_wp2_with fail
 refine(AA 4 _).mono ?_;rintro e w1 ⟨rfl,hb⟩;have BK:=Az (Bk hb (Bv w _));have z:w.heap.size<w1.heap.size:=Bl BK.out;have hbe:Below w.heap.size w w1:=((Below.refl w.heap.size w).alloc (Nl _) _).trans (hb.mono (by simp));replace hbe:=Az hbe;have c0:w1.cell? ⟨w.heap.size,0,none⟩=some (.int .i64 4):=(Bc BK.out 0).trans rfl;have c1:w1.cell? ⟨w.heap.size,1,none⟩=some (.int .i64 d):=(Bc BK.out 1).trans rfl;have c2:w1.cell? ⟨w.heap.size,2,none⟩=some (.int .i64 s):=(Bc BK.out 2).trans rfl;have c3:w1.cell? ⟨w.heap.size,3,none⟩=some (.int .i64 t):=(Bc BK.out 3).trans rfl;have c4:w1.cell? ⟨w.heap.size,4,none⟩=some (.int .i64 u):=(Bc BK.out 4).trans rfl;have c5:w1.cell? ⟨w.heap.size,5,none⟩=some (.int .i64 a):=(Bc BK.out 5).trans rfl;have c6:w1.cell? ⟨w.heap.size,6,none⟩=some (.int .u32 k):=(Bc BK.out 6).trans rfl;have c7:w1.cell? ⟨w.heap.size,7,none⟩=some (.int .i64 q):=(Bc BK.out 7).trans rfl;rw[show Aj 4=[97,110,100,107] from rfl];go_wp2_with fail
 refine(At d hd _).mono ?_;rintro e w' ⟨rfl,rfl⟩;go_wp2_with fail
 refine(At s hs _).mono ?_;rintro e w' ⟨rfl,rfl⟩;go_wp2_with fail
 refine(At t ht _).mono ?_;rintro e w' ⟨rfl,rfl⟩;go_wp2_with fail
 refine(At u hu _).mono ?_;rintro e w' ⟨rfl,rfl⟩;go_wp2_with fail
 refine(At a ha _).mono ?_;rintro e w' ⟨rfl,rfl⟩;go_wp2_with fail
 go_region_held3 (fun W=>W.cell? ⟨w.heap.size,1,none⟩=some (.int .i64 d)∧W.cell? ⟨w.heap.size,2,none⟩=some (.int .i64 s)∧W.cell? ⟨w.heap.size,6,none⟩=some (.int .u32 k)) (go_keep) (fail)
 cases cmp with
 |false =>
  go_wp2;go_ret;refine⟨congrArg (fun b=>Ending.returned (.bool b)) (show false=fin from ?_),?_⟩
  ·first |(rw[←hfin.out];done) |(rw[←hfin.out];simp)
  ·apply_rules [Bd,Below.setCell,Below.alloc,hbe.out]<;>first |omega |(simp;omega)
 |true =>
  go_wp2;go_ret;refine⟨congrArg (fun b=>Ending.returned (.bool b)) (show true=fin from ?_),?_⟩
  ·first |(rw[←hfin.out];done) |(rw[←hfin.out];simp)
  ·apply_rules [Bd,Below.setCell,Below.alloc,hbe.out]<;>first |omega |(simp;omega)
theorem Qa(d s t u a k q places:Int)(w:World)(hd:0≤d∧d≤7)(hs:0≤s∧s≤7)(ht:0≤t∧t≤7)(hu:0≤u∧u≤7)(ha:0≤a∧a≤7)(hk:0≤k∧k≤4294967295) :
  Calls Tryz.prog 64 #[.agg #[.int .i64 5,.int .i64 d,.int .i64 s,.int .i64 t,.int .i64 u,.int .i64 a,.int .u32 k,.int .i64 q],.int .i64 places] w fun e w'=>e=.returned (.bool (AO ⟨5,d,s,t,u,a,k,q⟩ places))∧Below w.heap.size w w':=by
 rw[T4 d s t u a k q places hd hs ht hu ha hk];have keq:∀ W,(binOp .eql 90 (.agg #[.int .i64 5,.int .i64 d,.int .i64 s,.int .i64 0,.int .i64 0,.int .i64 0,.int .u32 k,.int .i64 0]) (.agg #[.int .i64 5,.int .i64 d,.int .i64 s,.int .i64 t,.int .i64 u,.int .i64 a,.int .u32 k,.int .i64 q])).run Tryz.prog W=.ok (.bool (decide ((⟨5,d,s,0,0,0,k,0⟩:In)=⟨5,d,s,t,u,a,k,q⟩))) W:=fun W=>DN ⟨5,d,s,0,0,0,k,0⟩ ⟨5,d,s,t,u,a,k,q⟩ W
 generalize decide ((⟨5,d,s,0,0,0,k,0⟩:In)=⟨5,d,s,t,u,a,k,q⟩)=cmp at keq ⊢;generalize hfin:(!decide (31<k)&&cmp)=fin;replace hfin:=Az hfin;go_enter Tryz.func64,Tryz.ntmps64;go_wp2_with fail
 refine(AA 5 _).mono ?_;rintro e w1 ⟨rfl,hb⟩;have BK:=Az (Bk hb (Bv w _));have z:w.heap.size<w1.heap.size:=Bl BK.out;have hbe:Below w.heap.size w w1:=((Below.refl w.heap.size w).alloc (Nl _) _).trans (hb.mono (by simp));replace hbe:=Az hbe;have c0:w1.cell? ⟨w.heap.size,0,none⟩=some (.int .i64 5):=(Bc BK.out 0).trans rfl;have c1:w1.cell? ⟨w.heap.size,1,none⟩=some (.int .i64 d):=(Bc BK.out 1).trans rfl;have c2:w1.cell? ⟨w.heap.size,2,none⟩=some (.int .i64 s):=(Bc BK.out 2).trans rfl;have c3:w1.cell? ⟨w.heap.size,3,none⟩=some (.int .i64 t):=(Bc BK.out 3).trans rfl;have c4:w1.cell? ⟨w.heap.size,4,none⟩=some (.int .i64 u):=(Bc BK.out 4).trans rfl;have c5:w1.cell? ⟨w.heap.size,5,none⟩=some (.int .i64 a):=(Bc BK.out 5).trans rfl;have c6:w1.cell? ⟨w.heap.size,6,none⟩=some (.int .u32 k):=(Bc BK.out 6).trans rfl;have c7:w1.cell? ⟨w.heap.size,7,none⟩=some (.int .i64 q):=(Bc BK.out 7).trans rfl;rw[show Aj 5=[115,104,108] from rfl];go_wp2_with fail
 refine(At d hd _).mono ?_;rintro e w' ⟨rfl,rfl⟩;go_wp2_with fail
 refine(At s hs _).mono ?_;rintro e w' ⟨rfl,rfl⟩;go_wp2_with fail
 refine(At t ht _).mono ?_;rintro e w' ⟨rfl,rfl⟩;go_wp2_with fail
 refine(At u hu _).mono ?_;rintro e w' ⟨rfl,rfl⟩;go_wp2_with fail
 refine(At a ha _).mono ?_;rintro e w' ⟨rfl,rfl⟩;go_wp2_with fail
 go_region_held3 (fun W=>W.cell? ⟨w.heap.size,1,none⟩=some (.int .i64 d)∧W.cell? ⟨w.heap.size,2,none⟩=some (.int .i64 s)∧W.cell? ⟨w.heap.size,6,none⟩=some (.int .u32 k)) (go_keep) (fail)
 by_cases h0:31<k
 ·skip
  go_wp2;go_ret;refine⟨congrArg (fun b=>Ending.returned (.bool b)) (show false=fin from ?_),?_⟩
  ·first |(rw[←hfin.out];done) |(rw[←hfin.out];simp[h0])
  ·apply_rules [Bd,Below.setCell,Below.alloc,hbe.out]<;>first |omega |(simp;omega)
 cases cmp with
 |false =>
  go_wp2;go_ret;refine⟨congrArg (fun b=>Ending.returned (.bool b)) (show false=fin from ?_),?_⟩
  ·first |(rw[←hfin.out];done) |(rw[←hfin.out];simp)
  ·apply_rules [Bd,Below.setCell,Below.alloc,hbe.out]<;>first |omega |(simp;omega)
 |true =>
  go_wp2;go_ret;refine⟨congrArg (fun b=>Ending.returned (.bool b)) (show true=fin from ?_),?_⟩
  ·first |(rw[←hfin.out];done) |(rw[←hfin.out];simp[h0])
  ·apply_rules [Bd,Below.setCell,Below.alloc,hbe.out]<;>first |omega |(simp;omega)
theorem Qb(d s t u a k q places:Int)(w:World)(hd:0≤d∧d≤7)(hs:0≤s∧s≤7)(ht:0≤t∧t≤7)(hu:0≤u∧u≤7)(ha:0≤a∧a≤7)(hk:0≤k∧k≤4294967295) :
  Calls Tryz.prog 64 #[.agg #[.int .i64 6,.int .i64 d,.int .i64 s,.int .i64 t,.int .i64 u,.int .i64 a,.int .u32 k,.int .i64 q],.int .i64 places] w fun e w'=>e=.returned (.bool (AO ⟨6,d,s,t,u,a,k,q⟩ places))∧Below w.heap.size w w':=by
 rw[T5 d s t u a k q places hd hs ht hu ha hk];have keq:∀ W,(binOp .eql 90 (.agg #[.int .i64 6,.int .i64 d,.int .i64 s,.int .i64 0,.int .i64 0,.int .i64 0,.int .u32 k,.int .i64 0]) (.agg #[.int .i64 6,.int .i64 d,.int .i64 s,.int .i64 t,.int .i64 u,.int .i64 a,.int .u32 k,.int .i64 q])).run Tryz.prog W=.ok (.bool (decide ((⟨6,d,s,0,0,0,k,0⟩:In)=⟨6,d,s,t,u,a,k,q⟩))) W:=fun W=>DN ⟨6,d,s,0,0,0,k,0⟩ ⟨6,d,s,t,u,a,k,q⟩ W
 generalize decide ((⟨6,d,s,0,0,0,k,0⟩:In)=⟨6,d,s,t,u,a,k,q⟩)=cmp at keq ⊢;generalize hfin:(!decide (31<k)&&cmp)=fin;replace hfin:=Az hfin;go_enter Tryz.func64,Tryz.ntmps64;go_wp2_with fail
 refine(AA 6 _).mono ?_;rintro e w1 ⟨rfl,hb⟩;have BK:=Az (Bk hb (Bv w _));have z:w.heap.size<w1.heap.size:=Bl BK.out;have hbe:Below w.heap.size w w1:=((Below.refl w.heap.size w).alloc (Nl _) _).trans (hb.mono (by simp));replace hbe:=Az hbe;have c0:w1.cell? ⟨w.heap.size,0,none⟩=some (.int .i64 6):=(Bc BK.out 0).trans rfl;have c1:w1.cell? ⟨w.heap.size,1,none⟩=some (.int .i64 d):=(Bc BK.out 1).trans rfl;have c2:w1.cell? ⟨w.heap.size,2,none⟩=some (.int .i64 s):=(Bc BK.out 2).trans rfl;have c3:w1.cell? ⟨w.heap.size,3,none⟩=some (.int .i64 t):=(Bc BK.out 3).trans rfl;have c4:w1.cell? ⟨w.heap.size,4,none⟩=some (.int .i64 u):=(Bc BK.out 4).trans rfl;have c5:w1.cell? ⟨w.heap.size,5,none⟩=some (.int .i64 a):=(Bc BK.out 5).trans rfl;have c6:w1.cell? ⟨w.heap.size,6,none⟩=some (.int .u32 k):=(Bc BK.out 6).trans rfl;have c7:w1.cell? ⟨w.heap.size,7,none⟩=some (.int .i64 q):=(Bc BK.out 7).trans rfl;rw[show Aj 6=[115,104,114] from rfl];go_wp2_with fail
 refine(At d hd _).mono ?_;rintro e w' ⟨rfl,rfl⟩;go_wp2_with fail
 refine(At s hs _).mono ?_;rintro e w' ⟨rfl,rfl⟩;go_wp2_with fail
 refine(At t ht _).mono ?_;rintro e w' ⟨rfl,rfl⟩;go_wp2_with fail
 refine(At u hu _).mono ?_;rintro e w' ⟨rfl,rfl⟩;go_wp2_with fail
 refine(At a ha _).mono ?_;rintro e w' ⟨rfl,rfl⟩;go_wp2_with fail
 go_region_held3 (fun W=>W.cell? ⟨w.heap.size,1,none⟩=some (.int .i64 d)∧W.cell? ⟨w.heap.size,2,none⟩=some (.int .i64 s)∧W.cell? ⟨w.heap.size,6,none⟩=some (.int .u32 k)) (go_keep) (fail)
 by_cases h0:31<k
 ·skip
  go_wp2;go_ret;refine⟨congrArg (fun b=>Ending.returned (.bool b)) (show false=fin from ?_),?_⟩
  ·first |(rw[←hfin.out];done) |(rw[←hfin.out];simp[h0])
  ·apply_rules [Bd,Below.setCell,Below.alloc,hbe.out]<;>first |omega |(simp;omega)
 cases cmp with
 |false =>
  go_wp2;go_ret;refine⟨congrArg (fun b=>Ending.returned (.bool b)) (show false=fin from ?_),?_⟩
  ·first |(rw[←hfin.out];done) |(rw[←hfin.out];simp)
  ·apply_rules [Bd,Below.setCell,Below.alloc,hbe.out]<;>first |omega |(simp;omega)
 |true =>
  go_wp2;go_ret;refine⟨congrArg (fun b=>Ending.returned (.bool b)) (show true=fin from ?_),?_⟩
  ·first |(rw[←hfin.out];done) |(rw[←hfin.out];simp[h0])
  ·apply_rules [Bd,Below.setCell,Below.alloc,hbe.out]<;>first |omega |(simp;omega)
theorem Qc(d s t u a k q places:Int)(w:World)(hd:0≤d∧d≤7)(hs:0≤s∧s≤7)(ht:0≤t∧t≤7)(hu:0≤u∧u≤7)(ha:0≤a∧a≤7)(hk:0≤k∧k≤4294967295) :
  Calls Tryz.prog 64 #[.agg #[.int .i64 7,.int .i64 d,.int .i64 s,.int .i64 t,.int .i64 u,.int .i64 a,.int .u32 k,.int .i64 q],.int .i64 places] w fun e w'=>e=.returned (.bool (AO ⟨7,d,s,t,u,a,k,q⟩ places))∧Below w.heap.size w w':=by
 rw[T6 d s t u a k q places hd hs ht hu ha hk];have keq:∀ W,(binOp .eql 90 (.agg #[.int .i64 7,.int .i64 d,.int .i64 s,.int .i64 t,.int .i64 0,.int .i64 0,.int .u32 0,.int .i64 0]) (.agg #[.int .i64 7,.int .i64 d,.int .i64 s,.int .i64 t,.int .i64 u,.int .i64 a,.int .u32 k,.int .i64 q])).run Tryz.prog W=.ok (.bool (decide ((⟨7,d,s,t,0,0,0,0⟩:In)=⟨7,d,s,t,u,a,k,q⟩))) W:=fun W=>DN ⟨7,d,s,t,0,0,0,0⟩ ⟨7,d,s,t,u,a,k,q⟩ W
 generalize decide ((⟨7,d,s,t,0,0,0,0⟩:In)=⟨7,d,s,t,u,a,k,q⟩)=cmp at keq ⊢;generalize hfin:(cmp)=fin;replace hfin:=Az hfin;go_enter Tryz.func64,Tryz.ntmps64;go_wp2_with fail
 refine(AA 7 _).mono ?_;rintro e w1 ⟨rfl,hb⟩;have BK:=Az (Bk hb (Bv w _));have z:w.heap.size<w1.heap.size:=Bl BK.out;have hbe:Below w.heap.size w w1:=((Below.refl w.heap.size w).alloc (Nl _) _).trans (hb.mono (by simp));replace hbe:=Az hbe;have c0:w1.cell? ⟨w.heap.size,0,none⟩=some (.int .i64 7):=(Bc BK.out 0).trans rfl;have c1:w1.cell? ⟨w.heap.size,1,none⟩=some (.int .i64 d):=(Bc BK.out 1).trans rfl;have c2:w1.cell? ⟨w.heap.size,2,none⟩=some (.int .i64 s):=(Bc BK.out 2).trans rfl;have c3:w1.cell? ⟨w.heap.size,3,none⟩=some (.int .i64 t):=(Bc BK.out 3).trans rfl;have c4:w1.cell? ⟨w.heap.size,4,none⟩=some (.int .i64 u):=(Bc BK.out 4).trans rfl;have c5:w1.cell? ⟨w.heap.size,5,none⟩=some (.int .i64 a):=(Bc BK.out 5).trans rfl;have c6:w1.cell? ⟨w.heap.size,6,none⟩=some (.int .u32 k):=(Bc BK.out 6).trans rfl;have c7:w1.cell? ⟨w.heap.size,7,none⟩=some (.int .i64 q):=(Bc BK.out 7).trans rfl;rw[show Aj 7=[111,114] from rfl];go_wp2_with fail
 refine(At d hd _).mono ?_;rintro e w' ⟨rfl,rfl⟩;go_wp2_with fail
 refine(At s hs _).mono ?_;rintro e w' ⟨rfl,rfl⟩;go_wp2_with fail
 refine(At t ht _).mono ?_;rintro e w' ⟨rfl,rfl⟩;go_wp2_with fail
 refine(At u hu _).mono ?_;rintro e w' ⟨rfl,rfl⟩;go_wp2_with fail
 refine(At a ha _).mono ?_;rintro e w' ⟨rfl,rfl⟩;go_wp2_with fail
 go_region_held3 (fun W=>W.cell? ⟨w.heap.size,1,none⟩=some (.int .i64 d)∧W.cell? ⟨w.heap.size,2,none⟩=some (.int .i64 s)∧W.cell? ⟨w.heap.size,3,none⟩=some (.int .i64 t)) (go_keep) (fail)
 cases cmp with
 |false =>
  go_wp2;go_ret;refine⟨congrArg (fun b=>Ending.returned (.bool b)) (show false=fin from ?_),?_⟩
  ·first |(rw[←hfin.out];done) |(rw[←hfin.out];simp)
  ·apply_rules [Bd,Below.setCell,Below.alloc,hbe.out]<;>first |omega |(simp;omega)
 |true =>
  go_wp2;go_ret;refine⟨congrArg (fun b=>Ending.returned (.bool b)) (show true=fin from ?_),?_⟩
  ·first |(rw[←hfin.out];done) |(rw[←hfin.out];simp)
  ·apply_rules [Bd,Below.setCell,Below.alloc,hbe.out]<;>first |omega |(simp;omega)
end
end Go.Proofs.YtnmahobjmpdkdaaGreatDoor

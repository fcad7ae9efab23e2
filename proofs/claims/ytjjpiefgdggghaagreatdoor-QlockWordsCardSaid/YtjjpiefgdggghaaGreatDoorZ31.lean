/- Parts: HasMcs, HasK42. -/
import Derived.Test.YtjjpiefgdggghaaGreatDoorZ02
import Derived.Test.YtjjpiefgdggghaaGreatDoorZ10
import Derived.Test.YtjjpiefgdggghaaGreatDoorZ28
set_option linter.unusedVariables false
set_option linter.unusedSimpArgs false
set_option maxRecDepth 100000
set_option maxHeartbeats 40000000
namespace Go.Proofs.YtjjpiefgdggghaaGreatDoor
section
open Go.RowKit Go.Proofs.YtjjpiefgdggghaaGreatDoorW.PrintWords
def mcsT:List UInt8:=[108,111,99,107,58,10,115,101,108,102,32,114,49,10,97,100,100,107,32,114,50,32,114,49,32,49,10,115,116,111,114,101,32,49,32,114,49,32,114,48,10,99,111,110,115,116,32,114,51,32,49,10,115,116,111,114,101,32,50,32,114,49,32,114,51,10,115,119,97,112,32,114,52,32,48,32,114,48,32,114,50,10,109,97,114,107,32,49,10,98,101,113,32,114,52,32,114,48,32,103,111,116,10,97,100,100,107,32,114,52,32,114,52,32,52,50,57,52,57,54,55,50,57,53,10,115,116,111,114,101,32,49,32,114,52,32,114,50,10,97,119,97,105,116,32,114,53,32,50,32,114,49,32,101,113,32,114,48,10,103,111,116,58,10,109,97,114,107,32,50,10,100,111,110,101,32,49,10,117,110,108,111,99,107,58,10,108,111,97,100,32,114,52,32,49,32,114,49,10,98,110,101,32,114,52,32,114,48,32,104,97,110,100,10,99,97,115,32,114,53,32,48,32,114,48,32,114,50,32,114,48,10,98,101,113,32,114,53,32,114,48,32,108,105,110,107,10,109,97,114,107,32,52,10,100,111,110,101,32,50,10,108,105,110,107,58,10,97,119,97,105,116,32,114,52,32,49,32,114,49,32,110,101,32,114,48,10,104,97,110,100,58,10,97,100,100,107,32,114,52,32,114,52,32,52,50,57,52,57,54,55,50,57,53,10,115,116,111,114,101,32,50,32,114,52,32,114,48,10,109,97,114,107,32,52,10,100,111,110,101,32,50,10]
theorem mcs_len:mcsT.length≤90000:=by decide +kernel
theorem mcs_few:(At mcsT).1.l.length≤1000:=by decide +kernel
theorem mcsText_calls(W:World):Calls Tryz.prog 82 #[] W fun e W'=>e=.returned (.string ⟨mcsT.toArray⟩)∧W'=W:=by
 go_enter Tryz.func82,Tryz.ntmps82;go_wp2;go_ret;exact⟨rfl,rfl⟩
theorem mcsSpec_has(k:Nat)(h1:1≤k)(h2:k≤64)(w:World)(he:Env w):Calls Tryz.prog 53 #[.int .i64 (k:Int)] w (SpecHas w mcsT [1,(k:Int),(k:Int)] (List.replicate (2*k+1) (0:Int)) (List.replicate k (0:Int)) 0):=by
 have hd1:decide ((k:Int)<1)=false:=decide_eq_false (by omega);have hd2:decide ((64:Int)<(k:Int))=false:=decide_eq_false (by omega);have hw0:IntKind.i64.wrap (2*(k:Int))=2*(k:Int):=by rw[IntKind.wrap_i64];omega
 have hw1:IntKind.i64.wrap (1+2*(k:Int))=1+2*(k:Int):=by rw[IntKind.wrap_i64];omega
 have CT:=Az (fun W=>mcsText_calls W);have CA:=Az (fun(W:World) (heW:Env W)=>C9 mcsT W heW mcs_len);have hN:=Bv w (.cells #[.slice none 0 0,.int .i64 0,.int .i64 0,.slice none 0 0,.slice none 0 0,.int .i64 0,.slice none 0 0] 37);have hb0:=Bw w (.cells #[.slice none 0 0,.int .i64 0,.int .i64 0,.slice none 0 0,.slice none 0 0,.int .i64 0,.slice none 0 0] 37);obtain⟨w0,hw0⟩:∃ y,w.alloc (.cells #[.slice none 0 0,.int .i64 0,.int .i64 0,.slice none 0 0,.slice none 0 0,.int .i64 0,.slice none 0 0] 37)=y:=⟨_,rfl⟩
 rw[hw0]at hN hb0;go_enter Tryz.func53,Tryz.ntmps53;go_upto_region 3 with fail
 try rw[hw0]
 clear hw0;go_cut [4] (fun v wx=>∃ (p:Nat) (B C D:Option Addr) (n1 n2 k1 k2 k3:Nat),v=.pointer (some ⟨p,0,none⟩)∧Ai (SpB w wx w.heap.size p B C D n1 n2 k k1 k2 k3 (0))∧Ai (HRow wx (.slice B n1 k1) 3 (([1,(k:Int),(k:Int)]).map (Value.int .i64))∧HRow wx (.slice C n2 k2) 45 ((List.replicate (2*k+1) (0:Int)).map (Value.int .u32))∧HRow wx (.slice D k k3) 45 ((List.replicate k (0:Int)).map (Value.int .u32))))
 case first =>
  refine Aw [] (S:=fun _=>True) (by kernel_rfl) trivial (fun _=>?_);replace hN:=Bk (Bd (Below.refl _ w0)) hN;have hBl:=hb0.trans ((Bd (Below.refl _ w0)).mono hb0.size);clear hb0 CT CA;generalize w0.drew=w0 at *;refine tY 0 (fun _=>trivial) ?_;refine tY 1 (fun _=>trivial) ?_;refine tY 3 (fun _=>trivial) ?_;refine tY 4 (fun _=>trivial) ?_;refine tY 5 (fun _=>trivial) ?_;refine tY 7 (fun _=>trivial) ?_;iterate 4
   all_goals try
    refine Ax (i:=9) (v:=?_) (Ac rfl) (by decide +kernel) (fun _ _ _ h=>h) (.inl ⟨by rfl,?_⟩) (fun _=>trivial) ?_;rotate_left
    ·intro w;go_simp;try with_reducible rfl
    try simp only[Act.put,Sa,Sb,Sc]
   all_goals first
    |refine Ab (rs:=[2,6,8,10]) (by decide +kernel) (by simp) (Aa.cons (Ac rfl) (fun K hK=>?_) (Aa.cons (Ac rfl) (fun K hK=>?_) (Aa.cons (Ac rfl) (fun K hK=>?_) (Aa.cons (Ac rfl) (fun K hK=>?_) Aa.nil))))
    |refine Ab (rs:=[2,6,8]) (by decide +kernel) (by simp) (Aa.cons (Ac rfl) (fun K hK=>?_) (Aa.cons (Ac rfl) (fun K hK=>?_) (Aa.cons (Ac rfl) (fun K hK=>?_) Aa.nil)))
    |refine Ab (rs:=[2,6,10]) (by decide +kernel) (by simp) (Aa.cons (Ac rfl) (fun K hK=>?_) (Aa.cons (Ac rfl) (fun K hK=>?_) (Aa.cons (Ac rfl) (fun K hK=>?_) Aa.nil)))
    |refine Ab (rs:=[2,8,10]) (by decide +kernel) (by simp) (Aa.cons (Ac rfl) (fun K hK=>?_) (Aa.cons (Ac rfl) (fun K hK=>?_) (Aa.cons (Ac rfl) (fun K hK=>?_) Aa.nil)))
    |refine Ab (rs:=[6,8,10]) (by decide +kernel) (by simp) (Aa.cons (Ac rfl) (fun K hK=>?_) (Aa.cons (Ac rfl) (fun K hK=>?_) (Aa.cons (Ac rfl) (fun K hK=>?_) Aa.nil)))
    |refine Ab (rs:=[2,6]) (by decide +kernel) (by simp) (Aa.cons (Ac rfl) (fun K hK=>?_) (Aa.cons (Ac rfl) (fun K hK=>?_) Aa.nil))
    |refine Ab (rs:=[2,8]) (by decide +kernel) (by simp) (Aa.cons (Ac rfl) (fun K hK=>?_) (Aa.cons (Ac rfl) (fun K hK=>?_) Aa.nil))
    |refine Ab (rs:=[2,10]) (by decide +kernel) (by simp) (Aa.cons (Ac rfl) (fun K hK=>?_) (Aa.cons (Ac rfl) (fun K hK=>?_) Aa.nil))
    |refine Ab (rs:=[6,8]) (by decide +kernel) (by simp) (Aa.cons (Ac rfl) (fun K hK=>?_) (Aa.cons (Ac rfl) (fun K hK=>?_) Aa.nil))
    |refine Ab (rs:=[6,10]) (by decide +kernel) (by simp) (Aa.cons (Ac rfl) (fun K hK=>?_) (Aa.cons (Ac rfl) (fun K hK=>?_) Aa.nil))
    |refine Ab (rs:=[8,10]) (by decide +kernel) (by simp) (Aa.cons (Ac rfl) (fun K hK=>?_) (Aa.cons (Ac rfl) (fun K hK=>?_) Aa.nil))
    |refine Ab (rs:=[2]) (by decide +kernel) (by simp) (Aa.cons (Ac rfl) (fun K hK=>?_) Aa.nil)
    |refine Ab (rs:=[6]) (by decide +kernel) (by simp) (Aa.cons (Ac rfl) (fun K hK=>?_) Aa.nil)
    |refine Ab (rs:=[8]) (by decide +kernel) (by simp) (Aa.cons (Ac rfl) (fun K hK=>?_) Aa.nil)
    |refine Ab (rs:=[10]) (by decide +kernel) (by simp) (Aa.cons (Ac rfl) (fun K hK=>?_) Aa.nil)
   all_goals first
    |(refine step_h3 rfl _ _ _ rfl _ _ _ rfl rfl rfl (fun gB wL hb hBk=>?_);replace hN:=Bk hb hN;replace hBl:=hBl.trans (hb.mono hBl.size);(try replace hM:=Bk hb hM);(try replace hR:=Bk hb hR);(try replace hA:=Bk hb hA);clear hb)
    |(refine step_mkz rfl _ rfl _ rfl (2*k+1) (by omega) (by omega) (fun gM wL csM hb hgM hM hsM=>?_);(try have hMR:gM≠gR:=Nat.ne_of_gt (Nat.lt_of_lt_of_le (Bl hR) hgM));have hNM:=Nat.le_trans (Nat.le_of_lt (Bl hN)) hgM;replace hN:=Bk hb hN;replace hBl:=hBl.trans (hb.mono hBl.size);(try replace hBk:=Bk hb hBk);(try replace hR:=Bk hb hR);(try replace hA:=Bk hb hA);clear hb)
    |(refine step_mkz rfl _ rfl _ rfl k (by omega) (by omega) (fun gR wL csR hb hgR hR hsR=>?_);(try have hMR:gM≠gR:=Nat.ne_of_lt (Nat.lt_of_lt_of_le (Bl hM) hgR));replace hN:=Bk hb hN;replace hBl:=hBl.trans (hb.mono hBl.size);(try replace hBk:=Bk hb hBk);(try replace hM:=Bk hb hM);(try replace hA:=Bk hb hA);clear hb)
    |(refine Ea rfl rfl (fun p wL hb hgA hA=>?_);have hNp:=Nat.lt_of_lt_of_le (Bl hN) hgA;replace hN:=Bk hb hN;replace hBl:=hBl.trans (hb.mono hBl.size);(try replace hBk:=Bk hb hBk);(try replace hM:=Bk hb hM);(try replace hR:=Bk hb hR);clear hb)
   all_goals refine hK.out _ _ (fun _=>trivial) (fun _=>?_)
   all_goals clear hK K
   all_goals try simp only[Act.put,Sa,Sb,Sc]
  all_goals try
   refine Ax (i:=9) (v:=?_) (Ac rfl) (by decide +kernel) (fun _ _ _ h=>h) (.inl ⟨by rfl,?_⟩) (fun _=>trivial) ?_;rotate_left
   ·intro w;go_simp;try with_reducible rfl
   try simp only[Act.put,Sa,Sb,Sc]
  all_goals (
   have hMp:gM≠p:=fun e=>by subst e;rw[hA]at hM;cases hM
   have hfin:=Az (Bj hBl (Nat.le_of_lt hNp) hA (.slice none 0 0) (.int .i64 0) (.int .i64 0) (.slice (some ⟨gB,0,none⟩) 3 3) (.slice (some ⟨gM,0,none⟩) (2*k+1) (2*k+1)) (.int .i64 0) (.slice (some ⟨gR,0,none⟩) k k));have c0:wL.cell? ⟨p,0,none⟩=some (.slice none 0 0):=(Bc hA 0).trans rfl;have c1:wL.cell? ⟨p,1,none⟩=some (.int .i64 0):=(Bc hA 1).trans rfl;have c2:wL.cell? ⟨p,2,none⟩=some (.int .i64 0):=(Bc hA 2).trans rfl;have c3:wL.cell? ⟨p,3,none⟩=some (.slice none 0 0):=(Bc hA 3).trans rfl;have c4:wL.cell? ⟨p,4,none⟩=some (.slice none 0 0):=(Bc hA 4).trans rfl;have c5:wL.cell? ⟨p,5,none⟩=some (.int .i64 0):=(Bc hA 5).trans rfl;have c6:wL.cell? ⟨p,6,none⟩=some (.slice none 0 0):=(Bc hA 6).trans rfl;have f0:=Bf hA 0;have f1:=Bf hA 1;have f2:=Bf hA 2;have f3:=Bf hA 3;have f4:=Bf hA 4;have f5:=Bf hA 5;have f6:=Bf hA 6;have z0:p<wL.heap.size:=Bl hA;have r1:=HRow.new (([1,(k:Int),(k:Int)]).map (Value.int .i64)) hBk rfl (by simp) (fun j u hj=>by simpa using hj);have r2:=HRow.zeros hM (by omega) hsM.2;have r3:=HRow.zeros hR (by omega) hsR.2;have q1:=Az (seven_H hA r1 (by decide) (.slice none 0 0) (.int .i64 0) (.int .i64 0) (.slice (some ⟨gB,0,none⟩) 3 3) (.slice (some ⟨gM,0,none⟩) (2*k+1) (2*k+1)) (.int .i64 0) (.slice (some ⟨gR,0,none⟩) k k));have q2:=Az (seven_H hA r2 (by decide) (.slice none 0 0) (.int .i64 0) (.int .i64 0) (.slice (some ⟨gB,0,none⟩) 3 3) (.slice (some ⟨gM,0,none⟩) (2*k+1) (2*k+1)) (.int .i64 0) (.slice (some ⟨gR,0,none⟩) k k));have q3:=Az (seven_H hA r3 (by decide) (.slice none 0 0) (.int .i64 0) (.int .i64 0) (.slice (some ⟨gB,0,none⟩) 3 3) (.slice (some ⟨gM,0,none⟩) (2*k+1) (2*k+1)) (.int .i64 0) (.slice (some ⟨gR,0,none⟩) k k));have hsZ:=hsM.1;clear r1 r2 r3 hBk hR hsM hsR;replace hN:=Az hN;replace hM:=Az hM;replace hNp:=Az hNp;replace hMp:=Az hMp;clear hA hBl;refine Ab (rs:=[11]) (by kernel_rfl) (by simp) ?_;refine Aa.cons (Ac rfl) (fun K hK=>?_) Aa.nil;go_simp
   go_wp2_with fail
   refine hK.out _ _ (fun _=>trivial) (fun _=>?_);try simp only[Act.put,Sa,Sb,Sc]
   refine AL (by kernel_rfl) ?_ _;go_wp2;go_meet
   obtain⟨g1,g2,g3⟩:=hfin.out _ rfl;exact⟨p,some ⟨gB,0,none⟩,some ⟨gM,0,none⟩,some ⟨gR,0,none⟩,3,2*k+1,3,2*k+1,k,rfl,⟨⟨g2,(g3 _ (Nat.ne_of_lt hNp.out)).trans hN.out,g1,hNp.out⟩⟩,⟨q1.out _ rfl,q2.out _ rfl,q3.out _ rfl⟩⟩)
 case rest =>
  obtain⟨p,B,C,D,n1,n2,k1,k2,k3,rfl,hB,hH⟩:=hcut;go_wp2_with fail
  refine(CT.out _).mono ?_;rintro e w1 ⟨rfl,rfl⟩;go_wp2_with fail
  refine(CA.out _ (he.below hB.out.b)).mono ?_;rintro e w2 ⟨va,rfl,hr,hb⟩;have hB2:=hB.out.keep hb;have hr2:=hr.mono hB.out.b.size;obtain⟨A,mm,c,rfl⟩:=AB hr;have x1:=Az (hB2.finH (va:=.slice A mm c) (At mcsT).1.lock (At mcsT).1.unlock (hH.out.1.keep hb) (by decide));have x2:=Az (hB2.finH (va:=.slice A mm c) (At mcsT).1.lock (At mcsT).1.unlock (hH.out.2.1.keep hb) (by decide));have x3:=Az (hB2.finH (va:=.slice A mm c) (At mcsT).1.lock (At mcsT).1.unlock (hH.out.2.2.keep hb) (by decide));have hfin:=Az (hB2.fin (At mcsT).1.lock (At mcsT).1.unlock hr2);have c0:w2.cell? ⟨p,0,none⟩=some (.slice none 0 0):=(Bc hB2.q 0).trans rfl;have c1:w2.cell? ⟨p,1,none⟩=some (.int .i64 0):=(Bc hB2.q 1).trans rfl;have c2:w2.cell? ⟨p,2,none⟩=some (.int .i64 0):=(Bc hB2.q 2).trans rfl;have c3:w2.cell? ⟨p,3,none⟩=some (.slice B n1 k1):=(Bc hB2.q 3).trans rfl;have c4:w2.cell? ⟨p,4,none⟩=some (.slice C n2 k2):=(Bc hB2.q 4).trans rfl;have c5:w2.cell? ⟨p,5,none⟩=some (.int .i64 0):=(Bc hB2.q 5).trans rfl;have c6:w2.cell? ⟨p,6,none⟩=some (.slice D k k3):=(Bc hB2.q 6).trans rfl;have f0:=Bf hB2.q 0;have f1:=Bf hB2.q 1;have f2:=Bf hB2.q 2;have d0:w2.cell? ⟨w.heap.size,0,none⟩=some (.slice none 0 0):=(Bc hB2.c 0).trans rfl;have d1:w2.cell? ⟨w.heap.size,1,none⟩=some (.int .i64 0):=(Bc hB2.c 1).trans rfl;have d2:w2.cell? ⟨w.heap.size,2,none⟩=some (.int .i64 0):=(Bc hB2.c 2).trans rfl;have d3:w2.cell? ⟨w.heap.size,3,none⟩=some (.slice none 0 0):=(Bc hB2.c 3).trans rfl;have d4:w2.cell? ⟨w.heap.size,4,none⟩=some (.slice none 0 0):=(Bc hB2.c 4).trans rfl;have d5:w2.cell? ⟨w.heap.size,5,none⟩=some (.int .i64 0):=(Bc hB2.c 5).trans rfl;have d6:w2.cell? ⟨w.heap.size,6,none⟩=some (.slice none 0 0):=(Bc hB2.c 6).trans rfl;have e0:=Bf hB2.c 0;have e1:=Bf hB2.c 1;have e2:=Bf hB2.c 2;have e3:=Bf hB2.c 3;have e4:=Bf hB2.c 4;have e5:=Bf hB2.c 5;have e6:=Bf hB2.c 6;have z0:w.heap.size<w2.heap.size:=Bl hB2.c;have zp:p<w2.heap.size:=Bl hB2.q;have ne0:¬w.heap.size=p:=Nat.ne_of_lt hB2.ne;have ne1:¬p=w.heap.size:=Nat.ne_of_gt hB2.ne;clear hH hB hB2 hr hr2 hb CT CA;go_wp2;obtain⟨g1,g2,g3⟩:=hfin.out _ rfl;refine bodyPost_ret (Ah rfl _ _ w.heap.size 37 #[.slice A mm c,.int .i64 (At mcsT).1.lock,.int .i64 (At mcsT).1.unlock,.slice B n1 k1,.slice C n2 k2,.int .i64 0,.slice D k k3] (0,0) _ rfl g1 Tryz.underlying37 rfl (by kernel_rfl)) rfl ⟨_,_,_,_,rfl,g2,x1.out _ rfl,x2.out _ rfl,x3.out _ rfl,g3⟩
theorem mcsSpec_no(n:Int)(h:n<1∨64<n)(w:World):Calls Tryz.prog 53 #[.int .i64 n] w (DS w):=by
 have hN:=Bv w (.cells #[.slice none 0 0,.int .i64 0,.int .i64 0,.slice none 0 0,.slice none 0 0,.int .i64 0,.slice none 0 0] 37);have hb0:=Bw w (.cells #[.slice none 0 0,.int .i64 0,.int .i64 0,.slice none 0 0,.slice none 0 0,.int .i64 0,.slice none 0 0] 37);have hfin:=Dl hb0 hN;obtain⟨w0,hw0⟩:∃ y,w.alloc (.cells #[.slice none 0 0,.int .i64 0,.int .i64 0,.slice none 0 0,.slice none 0 0,.int .i64 0,.slice none 0 0] 37)=y:=⟨_,rfl⟩
 rw[hw0]at hfin hN;have d0:w0.cell? ⟨w.heap.size,0,none⟩=some (.slice none 0 0):=(Bc hN 0).trans rfl;have d1:w0.cell? ⟨w.heap.size,1,none⟩=some (.int .i64 0):=(Bc hN 1).trans rfl;have d2:w0.cell? ⟨w.heap.size,2,none⟩=some (.int .i64 0):=(Bc hN 2).trans rfl;have d3:w0.cell? ⟨w.heap.size,3,none⟩=some (.slice none 0 0):=(Bc hN 3).trans rfl;have d4:w0.cell? ⟨w.heap.size,4,none⟩=some (.slice none 0 0):=(Bc hN 4).trans rfl;have d5:w0.cell? ⟨w.heap.size,5,none⟩=some (.int .i64 0):=(Bc hN 5).trans rfl;have d6:w0.cell? ⟨w.heap.size,6,none⟩=some (.slice none 0 0):=(Bc hN 6).trans rfl;have e0:=Bf hN 0;have e1:=Bf hN 1;have e2:=Bf hN 2;have e3:=Bf hN 3;have e4:=Bf hN 4;have e5:=Bf hN 5;have e6:=Bf hN 6;have z0:w.heap.size<w0.heap.size:=Bl hN;replace hfin:=Az hfin;clear hN hb0;go_enter Tryz.func53,Tryz.ntmps53;go_upto_region 1 with fail
 try rw[hw0]
 clear hw0;go_cut [10] (fun v wx=>v=.bool true∧wx=w0)
 case first =>
  rcases h with h |h
  ·have hd1:decide (n<1)=true:=decide_eq_true h;go_wp2;go_meet
   exact⟨rfl,rfl⟩
  ·have hd1:decide (n<1)=false:=decide_eq_false (by omega);have hd2:decide (64<n)=true:=decide_eq_true h;go_wp2;go_meet
   exact⟨rfl,rfl⟩
 case rest =>
  obtain⟨rfl,rfl⟩:=hcut;go_wp2;obtain⟨g1,g2⟩:=hfin.out _ rfl;refine bodyPost_ret (Ah rfl _ _ w.heap.size 37 #[.slice none 0 0,.int .i64 0,.int .i64 0,.slice none 0 0,.slice none 0 0,.int .i64 0,.slice none 0 0] (0,0) _ rfl g1 Tryz.underlying37 rfl (by kernel_rfl)) rfl ⟨rfl,g2⟩
def k42T:List UInt8:=[108,111,99,107,58,10,115,101,108,102,32,114,49,10,97,100,100,107,32,114,50,32,114,49,32,50,10,99,111,110,115,116,32,114,51,32,49,10,97,103,97,105,110,58,10,108,111,97,100,32,114,52,32,48,32,114,48,10,98,110,101,32,114,52,32,114,48,32,113,117,101,117,101,10,99,97,115,32,114,53,32,48,32,114,48,32,114,48,32,114,51,10,98,101,113,32,114,53,32,114,48,32,97,103,97,105,110,10,109,97,114,107,32,49,10,109,97,114,107,32,50,10,100,111,110,101,32,49,10,113,117,101,117,101,58,10,115,116,111,114,101,32,50,32,114,49,32,114,48,10,115,116,111,114,101,32,51,32,114,49,32,114,51,10,99,97,115,32,114,53,32,48,32,114,48,32,114,52,32,114,50,10,98,101,113,32,114,53,32,114,48,32,97,103,97,105,110,10,109,97,114,107,32,49,10,98,101,113,32,114,52,32,114,51,32,102,105,114,115,116,10,97,100,100,107,32,114,52,32,114,52,32,52,50,57,52,57,54,55,50,57,52,10,115,116,111,114,101,32,50,32,114,52,32,114,50,10,106,117,109,112,32,119,97,105,116,10,102,105,114,115,116,58,10,115,116,111,114,101,32,49,32,114,48,32,114,50,10,119,97,105,116,58,10,97,119,97,105,116,32,114,53,32,51,32,114,49,32,101,113,32,114,48,10,109,97,114,107,32,50,10,108,111,97,100,32,114,52,32,50,32,114,49,10,98,110,101,32,114,52,32,114,48,32,104,97,115,10,115,116,111,114,101,32,49,32,114,48,32,114,48,10,99,97,115,32,114,53,32,48,32,114,48,32,114,50,32,114,51,10,98,110,101,32,114,53,32,114,48,32,111,117,116,10,97,119,97,105,116,32,114,52,32,50,32,114,49,32,110,101,32,114,48,10,104,97,115,58,10,115,116,111,114,101,32,49,32,114,48,32,114,52,10,111,117,116,58,10,100,111,110,101,32,49,10,117,110,108,111,99,107,58,10,108,111,97,100,32,114,52,32,49,32,114,48,10,98,110,101,32,114,52,32,114,48,32,104,97,110,100,10,99,111,110,115,116,32,114,51,32,49,10,99,97,115,32,114,53,32,48,32,114,48,32,114,51,32,114,48,10,98,101,113,32,114,53,32,114,48,32,98,101,104,105,110,100,10,109,97,114,107,32,52,10,100,111,110,101,32,50,10,98,101,104,105,110,100,58,10,97,119,97,105,116,32,114,52,32,49,32,114,48,32,110,101,32,114,48,10,104,97,110,100,58,10,97,100,100,107,32,114,52,32,114,52,32,52,50,57,52,57,54,55,50,57,52,10,115,116,111,114,101,32,51,32,114,52,32,114,48,10,109,97,114,107,32,52,10,100,111,110,101,32,50,10]
theorem k42_len:k42T.length≤90000:=by decide +kernel
theorem k42_few:(At k42T).1.l.length≤1000:=by decide +kernel
theorem k42Text_calls(W:World):Calls Tryz.prog 36 #[] W fun e W'=>e=.returned (.string ⟨k42T.toArray⟩)∧W'=W:=by
 go_enter Tryz.func36,Tryz.ntmps36;go_wp2;go_ret;exact⟨rfl,rfl⟩
theorem k42Spec_has(k:Nat)(h1:1≤k)(h2:k≤64)(w:World)(he:Env w):Calls Tryz.prog 13 #[.int .i64 (k:Int)] w (SpecHas w k42T [1,1,(k:Int),(k:Int)] (List.replicate (2*k+2) (0:Int)) (List.replicate k (0:Int)) 0):=by
 have hd1:decide ((k:Int)<1)=false:=decide_eq_false (by omega);have hd2:decide ((64:Int)<(k:Int))=false:=decide_eq_false (by omega);have hw0:IntKind.i64.wrap (2*(k:Int))=2*(k:Int):=by rw[IntKind.wrap_i64];omega
 have hw1:IntKind.i64.wrap (2+2*(k:Int))=2+2*(k:Int):=by rw[IntKind.wrap_i64];omega
 have CT:=Az (fun W=>k42Text_calls W);have CA:=Az (fun(W:World) (heW:Env W)=>C9 k42T W heW k42_len);have hN:=Bv w (.cells #[.slice none 0 0,.int .i64 0,.int .i64 0,.slice none 0 0,.slice none 0 0,.int .i64 0,.slice none 0 0] 37);have hb0:=Bw w (.cells #[.slice none 0 0,.int .i64 0,.int .i64 0,.slice none 0 0,.slice none 0 0,.int .i64 0,.slice none 0 0] 37);obtain⟨w0,hw0⟩:∃ y,w.alloc (.cells #[.slice none 0 0,.int .i64 0,.int .i64 0,.slice none 0 0,.slice none 0 0,.int .i64 0,.slice none 0 0] 37)=y:=⟨_,rfl⟩
 rw[hw0]at hN hb0;go_enter Tryz.func13,Tryz.ntmps13;go_upto_region 3 with fail
 try rw[hw0]
 clear hw0;go_cut [4] (fun v wx=>∃ (p:Nat) (B C D:Option Addr) (n1 n2 k1 k2 k3:Nat),v=.pointer (some ⟨p,0,none⟩)∧Ai (SpB w wx w.heap.size p B C D n1 n2 k k1 k2 k3 (0))∧Ai (HRow wx (.slice B n1 k1) 3 (([1,1,(k:Int),(k:Int)]).map (Value.int .i64))∧HRow wx (.slice C n2 k2) 45 ((List.replicate (2*k+2) (0:Int)).map (Value.int .u32))∧HRow wx (.slice D k k3) 45 ((List.replicate k (0:Int)).map (Value.int .u32))))
 case first =>
  refine Aw [] (S:=fun _=>True) (by kernel_rfl) trivial (fun _=>?_);replace hN:=Bk (Bd (Below.refl _ w0)) hN;have hBl:=hb0.trans ((Bd (Below.refl _ w0)).mono hb0.size);clear hb0 CT CA;generalize w0.drew=w0 at *;refine tY 0 (fun _=>trivial) ?_;refine tY 1 (fun _=>trivial) ?_;refine tY 3 (fun _=>trivial) ?_;refine tY 4 (fun _=>trivial) ?_;refine tY 5 (fun _=>trivial) ?_;refine tY 7 (fun _=>trivial) ?_;iterate 4
   all_goals try
    refine Ax (i:=9) (v:=?_) (Ac rfl) (by decide +kernel) (fun _ _ _ h=>h) (.inl ⟨by rfl,?_⟩) (fun _=>trivial) ?_;rotate_left
    ·intro w;go_simp;try with_reducible rfl
    try simp only[Act.put,Sa,Sb,Sc]
   all_goals first
    |refine Ab (rs:=[2,6,8,10]) (by decide +kernel) (by simp) (Aa.cons (Ac rfl) (fun K hK=>?_) (Aa.cons (Ac rfl) (fun K hK=>?_) (Aa.cons (Ac rfl) (fun K hK=>?_) (Aa.cons (Ac rfl) (fun K hK=>?_) Aa.nil))))
    |refine Ab (rs:=[2,6,8]) (by decide +kernel) (by simp) (Aa.cons (Ac rfl) (fun K hK=>?_) (Aa.cons (Ac rfl) (fun K hK=>?_) (Aa.cons (Ac rfl) (fun K hK=>?_) Aa.nil)))
    |refine Ab (rs:=[2,6,10]) (by decide +kernel) (by simp) (Aa.cons (Ac rfl) (fun K hK=>?_) (Aa.cons (Ac rfl) (fun K hK=>?_) (Aa.cons (Ac rfl) (fun K hK=>?_) Aa.nil)))
    |refine Ab (rs:=[2,8,10]) (by decide +kernel) (by simp) (Aa.cons (Ac rfl) (fun K hK=>?_) (Aa.cons (Ac rfl) (fun K hK=>?_) (Aa.cons (Ac rfl) (fun K hK=>?_) Aa.nil)))
    |refine Ab (rs:=[6,8,10]) (by decide +kernel) (by simp) (Aa.cons (Ac rfl) (fun K hK=>?_) (Aa.cons (Ac rfl) (fun K hK=>?_) (Aa.cons (Ac rfl) (fun K hK=>?_) Aa.nil)))
    |refine Ab (rs:=[2,6]) (by decide +kernel) (by simp) (Aa.cons (Ac rfl) (fun K hK=>?_) (Aa.cons (Ac rfl) (fun K hK=>?_) Aa.nil))
    |refine Ab (rs:=[2,8]) (by decide +kernel) (by simp) (Aa.cons (Ac rfl) (fun K hK=>?_) (Aa.cons (Ac rfl) (fun K hK=>?_) Aa.nil))
    |refine Ab (rs:=[2,10]) (by decide +kernel) (by simp) (Aa.cons (Ac rfl) (fun K hK=>?_) (Aa.cons (Ac rfl) (fun K hK=>?_) Aa.nil))
    |refine Ab (rs:=[6,8]) (by decide +kernel) (by simp) (Aa.cons (Ac rfl) (fun K hK=>?_) (Aa.cons (Ac rfl) (fun K hK=>?_) Aa.nil))
    |refine Ab (rs:=[6,10]) (by decide +kernel) (by simp) (Aa.cons (Ac rfl) (fun K hK=>?_) (Aa.cons (Ac rfl) (fun K hK=>?_) Aa.nil))
    |refine Ab (rs:=[8,10]) (by decide +kernel) (by simp) (Aa.cons (Ac rfl) (fun K hK=>?_) (Aa.cons (Ac rfl) (fun K hK=>?_) Aa.nil))
    |refine Ab (rs:=[2]) (by decide +kernel) (by simp) (Aa.cons (Ac rfl) (fun K hK=>?_) Aa.nil)
    |refine Ab (rs:=[6]) (by decide +kernel) (by simp) (Aa.cons (Ac rfl) (fun K hK=>?_) Aa.nil)
    |refine Ab (rs:=[8]) (by decide +kernel) (by simp) (Aa.cons (Ac rfl) (fun K hK=>?_) Aa.nil)
    |refine Ab (rs:=[10]) (by decide +kernel) (by simp) (Aa.cons (Ac rfl) (fun K hK=>?_) Aa.nil)
   all_goals first
    |(refine step_h4 rfl _ _ _ _ rfl _ _ _ _ rfl rfl rfl rfl (fun gB wL hb hBk=>?_);replace hN:=Bk hb hN;replace hBl:=hBl.trans (hb.mono hBl.size);(try replace hM:=Bk hb hM);(try replace hR:=Bk hb hR);(try replace hA:=Bk hb hA);clear hb)
    |(refine step_mkz rfl _ rfl _ rfl (2*k+2) (by omega) (by omega) (fun gM wL csM hb hgM hM hsM=>?_);(try have hMR:gM≠gR:=Nat.ne_of_gt (Nat.lt_of_lt_of_le (Bl hR) hgM));have hNM:=Nat.le_trans (Nat.le_of_lt (Bl hN)) hgM;replace hN:=Bk hb hN;replace hBl:=hBl.trans (hb.mono hBl.size);(try replace hBk:=Bk hb hBk);(try replace hR:=Bk hb hR);(try replace hA:=Bk hb hA);clear hb)
    |(refine step_mkz rfl _ rfl _ rfl k (by omega) (by omega) (fun gR wL csR hb hgR hR hsR=>?_);(try have hMR:gM≠gR:=Nat.ne_of_lt (Nat.lt_of_lt_of_le (Bl hM) hgR));replace hN:=Bk hb hN;replace hBl:=hBl.trans (hb.mono hBl.size);(try replace hBk:=Bk hb hBk);(try replace hM:=Bk hb hM);(try replace hA:=Bk hb hA);clear hb)
    |(refine Ea rfl rfl (fun p wL hb hgA hA=>?_);have hNp:=Nat.lt_of_lt_of_le (Bl hN) hgA;replace hN:=Bk hb hN;replace hBl:=hBl.trans (hb.mono hBl.size);(try replace hBk:=Bk hb hBk);(try replace hM:=Bk hb hM);(try replace hR:=Bk hb hR);clear hb)
   all_goals refine hK.out _ _ (fun _=>trivial) (fun _=>?_)
   all_goals clear hK K
   all_goals try simp only[Act.put,Sa,Sb,Sc]
  all_goals try
   refine Ax (i:=9) (v:=?_) (Ac rfl) (by decide +kernel) (fun _ _ _ h=>h) (.inl ⟨by rfl,?_⟩) (fun _=>trivial) ?_;rotate_left
   ·intro w;go_simp;try with_reducible rfl
   try simp only[Act.put,Sa,Sb,Sc]
  all_goals (
   have hMp:gM≠p:=fun e=>by subst e;rw[hA]at hM;cases hM
   have hfin:=Az (Bj hBl (Nat.le_of_lt hNp) hA (.slice none 0 0) (.int .i64 0) (.int .i64 0) (.slice (some ⟨gB,0,none⟩) 4 4) (.slice (some ⟨gM,0,none⟩) (2*k+2) (2*k+2)) (.int .i64 0) (.slice (some ⟨gR,0,none⟩) k k));have c0:wL.cell? ⟨p,0,none⟩=some (.slice none 0 0):=(Bc hA 0).trans rfl;have c1:wL.cell? ⟨p,1,none⟩=some (.int .i64 0):=(Bc hA 1).trans rfl;have c2:wL.cell? ⟨p,2,none⟩=some (.int .i64 0):=(Bc hA 2).trans rfl;have c3:wL.cell? ⟨p,3,none⟩=some (.slice none 0 0):=(Bc hA 3).trans rfl;have c4:wL.cell? ⟨p,4,none⟩=some (.slice none 0 0):=(Bc hA 4).trans rfl;have c5:wL.cell? ⟨p,5,none⟩=some (.int .i64 0):=(Bc hA 5).trans rfl;have c6:wL.cell? ⟨p,6,none⟩=some (.slice none 0 0):=(Bc hA 6).trans rfl;have f0:=Bf hA 0;have f1:=Bf hA 1;have f2:=Bf hA 2;have f3:=Bf hA 3;have f4:=Bf hA 4;have f5:=Bf hA 5;have f6:=Bf hA 6;have z0:p<wL.heap.size:=Bl hA;have r1:=HRow.new (([1,1,(k:Int),(k:Int)]).map (Value.int .i64)) hBk rfl (by simp) (fun j u hj=>by simpa using hj);have r2:=HRow.zeros hM (by omega) hsM.2;have r3:=HRow.zeros hR (by omega) hsR.2;have q1:=Az (seven_H hA r1 (by decide) (.slice none 0 0) (.int .i64 0) (.int .i64 0) (.slice (some ⟨gB,0,none⟩) 4 4) (.slice (some ⟨gM,0,none⟩) (2*k+2) (2*k+2)) (.int .i64 0) (.slice (some ⟨gR,0,none⟩) k k));have q2:=Az (seven_H hA r2 (by decide) (.slice none 0 0) (.int .i64 0) (.int .i64 0) (.slice (some ⟨gB,0,none⟩) 4 4) (.slice (some ⟨gM,0,none⟩) (2*k+2) (2*k+2)) (.int .i64 0) (.slice (some ⟨gR,0,none⟩) k k));have q3:=Az (seven_H hA r3 (by decide) (.slice none 0 0) (.int .i64 0) (.int .i64 0) (.slice (some ⟨gB,0,none⟩) 4 4) (.slice (some ⟨gM,0,none⟩) (2*k+2) (2*k+2)) (.int .i64 0) (.slice (some ⟨gR,0,none⟩) k k));have hsZ:=hsM.1;clear r1 r2 r3 hBk hR hsM hsR;replace hN:=Az hN;replace hM:=Az hM;replace hNp:=Az hNp;replace hMp:=Az hMp;clear hA hBl;refine Ab (rs:=[11]) (by kernel_rfl) (by simp) ?_;refine Aa.cons (Ac rfl) (fun K hK=>?_) Aa.nil;go_simp
   go_wp2_with fail
   refine hK.out _ _ (fun _=>trivial) (fun _=>?_);try simp only[Act.put,Sa,Sb,Sc]
   refine AL (by kernel_rfl) ?_ _;go_wp2;go_meet
   obtain⟨g1,g2,g3⟩:=hfin.out _ rfl;exact⟨p,some ⟨gB,0,none⟩,some ⟨gM,0,none⟩,some ⟨gR,0,none⟩,4,2*k+2,4,2*k+2,k,rfl,⟨⟨g2,(g3 _ (Nat.ne_of_lt hNp.out)).trans hN.out,g1,hNp.out⟩⟩,⟨q1.out _ rfl,q2.out _ rfl,q3.out _ rfl⟩⟩)
 case rest =>
  obtain⟨p,B,C,D,n1,n2,k1,k2,k3,rfl,hB,hH⟩:=hcut;go_wp2_with fail
  refine(CT.out _).mono ?_;rintro e w1 ⟨rfl,rfl⟩;go_wp2_with fail
  refine(CA.out _ (he.below hB.out.b)).mono ?_;rintro e w2 ⟨va,rfl,hr,hb⟩;have hB2:=hB.out.keep hb;have hr2:=hr.mono hB.out.b.size;obtain⟨A,mm,c,rfl⟩:=AB hr;have x1:=Az (hB2.finH (va:=.slice A mm c) (At k42T).1.lock (At k42T).1.unlock (hH.out.1.keep hb) (by decide));have x2:=Az (hB2.finH (va:=.slice A mm c) (At k42T).1.lock (At k42T).1.unlock (hH.out.2.1.keep hb) (by decide));have x3:=Az (hB2.finH (va:=.slice A mm c) (At k42T).1.lock (At k42T).1.unlock (hH.out.2.2.keep hb) (by decide));have hfin:=Az (hB2.fin (At k42T).1.lock (At k42T).1.unlock hr2);have c0:w2.cell? ⟨p,0,none⟩=some (.slice none 0 0):=(Bc hB2.q 0).trans rfl;have c1:w2.cell? ⟨p,1,none⟩=some (.int .i64 0):=(Bc hB2.q 1).trans rfl;have c2:w2.cell? ⟨p,2,none⟩=some (.int .i64 0):=(Bc hB2.q 2).trans rfl;have c3:w2.cell? ⟨p,3,none⟩=some (.slice B n1 k1):=(Bc hB2.q 3).trans rfl;have c4:w2.cell? ⟨p,4,none⟩=some (.slice C n2 k2):=(Bc hB2.q 4).trans rfl;have c5:w2.cell? ⟨p,5,none⟩=some (.int .i64 0):=(Bc hB2.q 5).trans rfl;have c6:w2.cell? ⟨p,6,none⟩=some (.slice D k k3):=(Bc hB2.q 6).trans rfl;have f0:=Bf hB2.q 0;have f1:=Bf hB2.q 1;have f2:=Bf hB2.q 2;have d0:w2.cell? ⟨w.heap.size,0,none⟩=some (.slice none 0 0):=(Bc hB2.c 0).trans rfl;have d1:w2.cell? ⟨w.heap.size,1,none⟩=some (.int .i64 0):=(Bc hB2.c 1).trans rfl;have d2:w2.cell? ⟨w.heap.size,2,none⟩=some (.int .i64 0):=(Bc hB2.c 2).trans rfl;have d3:w2.cell? ⟨w.heap.size,3,none⟩=some (.slice none 0 0):=(Bc hB2.c 3).trans rfl;have d4:w2.cell? ⟨w.heap.size,4,none⟩=some (.slice none 0 0):=(Bc hB2.c 4).trans rfl;have d5:w2.cell? ⟨w.heap.size,5,none⟩=some (.int .i64 0):=(Bc hB2.c 5).trans rfl;have d6:w2.cell? ⟨w.heap.size,6,none⟩=some (.slice none 0 0):=(Bc hB2.c 6).trans rfl;have e0:=Bf hB2.c 0;have e1:=Bf hB2.c 1;have e2:=Bf hB2.c 2;have e3:=Bf hB2.c 3;have e4:=Bf hB2.c 4;have e5:=Bf hB2.c 5;have e6:=Bf hB2.c 6;have z0:w.heap.size<w2.heap.size:=Bl hB2.c;have zp:p<w2.heap.size:=Bl hB2.q;have ne0:¬w.heap.size=p:=Nat.ne_of_lt hB2.ne;have ne1:¬p=w.heap.size:=Nat.ne_of_gt hB2.ne;clear hH hB hB2 hr hr2 hb CT CA;go_wp2;obtain⟨g1,g2,g3⟩:=hfin.out _ rfl;refine bodyPost_ret (Ah rfl _ _ w.heap.size 37 #[.slice A mm c,.int .i64 (At k42T).1.lock,.int .i64 (At k42T).1.unlock,.slice B n1 k1,.slice C n2 k2,.int .i64 0,.slice D k k3] (0,0) _ rfl g1 Tryz.underlying37 rfl (by kernel_rfl)) rfl ⟨_,_,_,_,rfl,g2,x1.out _ rfl,x2.out _ rfl,x3.out _ rfl,g3⟩
theorem k42Spec_no(n:Int)(h:n<1∨64<n)(w:World):Calls Tryz.prog 13 #[.int .i64 n] w (DS w):=by
 have hN:=Bv w (.cells #[.slice none 0 0,.int .i64 0,.int .i64 0,.slice none 0 0,.slice none 0 0,.int .i64 0,.slice none 0 0] 37);have hb0:=Bw w (.cells #[.slice none 0 0,.int .i64 0,.int .i64 0,.slice none 0 0,.slice none 0 0,.int .i64 0,.slice none 0 0] 37);have hfin:=Dl hb0 hN;obtain⟨w0,hw0⟩:∃ y,w.alloc (.cells #[.slice none 0 0,.int .i64 0,.int .i64 0,.slice none 0 0,.slice none 0 0,.int .i64 0,.slice none 0 0] 37)=y:=⟨_,rfl⟩
 rw[hw0]at hfin hN;have d0:w0.cell? ⟨w.heap.size,0,none⟩=some (.slice none 0 0):=(Bc hN 0).trans rfl;have d1:w0.cell? ⟨w.heap.size,1,none⟩=some (.int .i64 0):=(Bc hN 1).trans rfl;have d2:w0.cell? ⟨w.heap.size,2,none⟩=some (.int .i64 0):=(Bc hN 2).trans rfl;have d3:w0.cell? ⟨w.heap.size,3,none⟩=some (.slice none 0 0):=(Bc hN 3).trans rfl;have d4:w0.cell? ⟨w.heap.size,4,none⟩=some (.slice none 0 0):=(Bc hN 4).trans rfl;have d5:w0.cell? ⟨w.heap.size,5,none⟩=some (.int .i64 0):=(Bc hN 5).trans rfl;have d6:w0.cell? ⟨w.heap.size,6,none⟩=some (.slice none 0 0):=(Bc hN 6).trans rfl;have e0:=Bf hN 0;have e1:=Bf hN 1;have e2:=Bf hN 2;have e3:=Bf hN 3;have e4:=Bf hN 4;have e5:=Bf hN 5;have e6:=Bf hN 6;have z0:w.heap.size<w0.heap.size:=Bl hN;replace hfin:=Az hfin;clear hN hb0;go_enter Tryz.func13,Tryz.ntmps13;go_upto_region 1 with fail
 try rw[hw0]
 clear hw0;go_cut [10] (fun v wx=>v=.bool true∧wx=w0)
 case first =>
  rcases h with h |h
  ·have hd1:decide (n<1)=true:=decide_eq_true h;go_wp2;go_meet
   exact⟨rfl,rfl⟩
  ·have hd1:decide (n<1)=false:=decide_eq_false (by omega);have hd2:decide (64<n)=true:=decide_eq_true h;go_wp2;go_meet
   exact⟨rfl,rfl⟩
 case rest =>
  obtain⟨rfl,rfl⟩:=hcut;go_wp2;obtain⟨g1,g2⟩:=hfin.out _ rfl;refine bodyPost_ret (Ah rfl _ _ w.heap.size 37 #[.slice none 0 0,.int .i64 0,.int .i64 0,.slice none 0 0,.slice none 0 0,.int .i64 0,.slice none 0 0] (0,0) _ rfl g1 Tryz.underlying37 rfl (by kernel_rfl)) rfl ⟨rfl,g2⟩
end
end Go.Proofs.YtjjpiefgdggghaaGreatDoor

/- Parts: HasGraunke. -/
import Derived.Test.YtjjpiefgdggghaaGreatDoorZ02
import Derived.Test.YtjjpiefgdggghaaGreatDoorZ10
import Derived.Test.YtjjpiefgdggghaaGreatDoorZ28
set_option linter.unusedVariables false
set_option linter.unusedSimpArgs false
set_option maxRecDepth 100000
set_option maxHeartbeats 40000000
namespace Go.Proofs.YtjjpiefgdggghaaGreatDoor
section
open Go.RowKit Go.Proofs.YtjjpiefgdggghaaGreatDoorW.PrintWords
def graunkeT:List UInt8:=[108,111,99,107,58,10,115,101,108,102,32,114,49,10,108,111,97,100,32,114,50,32,49,32,114,49,10,115,104,108,32,114,51,32,114,49,32,49,10,111,114,32,114,51,32,114,51,32,114,50,10,115,119,97,112,32,114,52,32,48,32,114,48,32,114,51,10,109,97,114,107,32,49,10,97,110,100,107,32,114,53,32,114,52,32,49,10,115,104,114,32,114,54,32,114,52,32,49,10,97,119,97,105,116,32,114,52,32,49,32,114,54,32,110,101,32,114,53,10,109,97,114,107,32,50,10,100,111,110,101,32,49,10,117,110,108,111,99,107,58,10,99,111,110,115,116,32,114,51,32,49,10,98,101,113,32,114,50,32,114,48,32,116,117,114,110,10,99,111,110,115,116,32,114,51,32,48,10,116,117,114,110,58,10,115,116,111,114,101,32,49,32,114,49,32,114,51,10,109,97,114,107,32,52,10,100,111,110,101,32,50,10]
theorem graunke_len:graunkeT.length≤90000:=by decide +kernel
theorem graunke_few:(At graunkeT).1.l.length≤1000:=by decide +kernel
theorem graunkeText_calls(W:World):Calls Tryz.prog 80 #[] W fun e W'=>e=.returned (.string ⟨graunkeT.toArray⟩)∧W'=W:=by
 go_enter Tryz.func80,Tryz.ntmps80;go_wp2;go_ret;exact⟨rfl,rfl⟩
theorem graunkeSpec_has(k:Nat)(h1:1≤k)(h2:k≤64)(w:World)(he:Env w):Calls Tryz.prog 51 #[.int .i64 (k:Int)] w (SpecHas w graunkeT [1,(k:Int)+1] (((List.replicate (k+2) (0:Int)).set 0 (2*(k:Int))).set (k+1) 1) (List.replicate k (0:Int)) 0):=by
 have hd1:decide ((k:Int)<1)=false:=decide_eq_false (by omega);have hd2:decide ((64:Int)<(k:Int))=false:=decide_eq_false (by omega);have hw0:IntKind.i64.wrap ((k:Int)+1)=(k:Int)+1:=by rw[IntKind.wrap_i64];omega
 have hw1:IntKind.i64.wrap ((k:Int)+2)=(k:Int)+2:=by rw[IntKind.wrap_i64];omega
 have hw8:IntKind.i64.wrap (2*(k:Int))=2*(k:Int):=by rw[IntKind.wrap_i64];omega
 have hw9:IntKind.u32.wrap (2*(k:Int))=2*(k:Int):=by rw[IntKind.wrap_u32];omega
 have CT:=Az (fun W=>graunkeText_calls W);have CA:=Az (fun(W:World) (heW:Env W)=>C9 graunkeT W heW graunke_len);have hN:=Bv w (.cells #[.slice none 0 0,.int .i64 0,.int .i64 0,.slice none 0 0,.slice none 0 0,.int .i64 0,.slice none 0 0] 37);have hb0:=Bw w (.cells #[.slice none 0 0,.int .i64 0,.int .i64 0,.slice none 0 0,.slice none 0 0,.int .i64 0,.slice none 0 0] 37);obtain⟨w0,hw0⟩:∃ y,w.alloc (.cells #[.slice none 0 0,.int .i64 0,.int .i64 0,.slice none 0 0,.slice none 0 0,.int .i64 0,.slice none 0 0] 37)=y:=⟨_,rfl⟩
 rw[hw0]at hN hb0;go_enter Tryz.func51,Tryz.ntmps51;go_upto_region 3 with fail
 try rw[hw0]
 clear hw0;go_cut [4] (fun v wx=>∃ (p:Nat) (B C D:Option Addr) (n1 n2 k1 k2 k3:Nat),v=.pointer (some ⟨p,0,none⟩)∧Ai (SpB w wx w.heap.size p B C D n1 n2 k k1 k2 k3 (0))∧Ai (HRow wx (.slice B n1 k1) 3 (([1,(k:Int)+1]).map (Value.int .i64))∧HRow wx (.slice C n2 k2) 45 ((List.replicate (k+2) (0:Int)).map (Value.int .u32))∧HRow wx (.slice D k k3) 45 ((List.replicate k (0:Int)).map (Value.int .u32)))∧(∀ (g n c:Nat),Value.slice D k k3=.slice (some ⟨g,0,none⟩) n c→C≠some ⟨g,0,none⟩)∧∃ (gM:Nat) (csM:Array Value),C=some ⟨gM,0,none⟩∧n2=k+2∧w.heap.size≤gM∧Ai (wx.heap[gM]?=some (.cells csM 45 (0,0))∧csM.size=k+2))
 case first =>
  refine Aw [] (S:=fun _=>True) (by kernel_rfl) trivial (fun _=>?_);replace hN:=Bk (Bd (Below.refl _ w0)) hN;have hBl:=hb0.trans ((Bd (Below.refl _ w0)).mono hb0.size);clear hb0 CT CA;generalize w0.drew=w0 at *;refine tY 0 (fun _=>trivial) ?_;refine tY 1 (fun _=>trivial) ?_;refine tY 3 (fun _=>trivial) ?_;refine tY 4 (fun _=>trivial) ?_;refine tY 6 (fun _=>trivial) ?_;iterate 4
   all_goals try
    refine Ax (i:=8) (v:=?_) (Ac rfl) (by decide +kernel) (fun _ _ _ h=>h) (.inl ⟨by rfl,?_⟩) (fun _=>trivial) ?_;rotate_left
    ·intro w;go_simp;try with_reducible rfl
    try simp only[Act.put,Sa,Sb,Sc]
   all_goals first
    |refine Ab (rs:=[2,5,7,9]) (by decide +kernel) (by simp) (Aa.cons (Ac rfl) (fun K hK=>?_) (Aa.cons (Ac rfl) (fun K hK=>?_) (Aa.cons (Ac rfl) (fun K hK=>?_) (Aa.cons (Ac rfl) (fun K hK=>?_) Aa.nil))))
    |refine Ab (rs:=[2,5,7]) (by decide +kernel) (by simp) (Aa.cons (Ac rfl) (fun K hK=>?_) (Aa.cons (Ac rfl) (fun K hK=>?_) (Aa.cons (Ac rfl) (fun K hK=>?_) Aa.nil)))
    |refine Ab (rs:=[2,5,9]) (by decide +kernel) (by simp) (Aa.cons (Ac rfl) (fun K hK=>?_) (Aa.cons (Ac rfl) (fun K hK=>?_) (Aa.cons (Ac rfl) (fun K hK=>?_) Aa.nil)))
    |refine Ab (rs:=[2,7,9]) (by decide +kernel) (by simp) (Aa.cons (Ac rfl) (fun K hK=>?_) (Aa.cons (Ac rfl) (fun K hK=>?_) (Aa.cons (Ac rfl) (fun K hK=>?_) Aa.nil)))
    |refine Ab (rs:=[5,7,9]) (by decide +kernel) (by simp) (Aa.cons (Ac rfl) (fun K hK=>?_) (Aa.cons (Ac rfl) (fun K hK=>?_) (Aa.cons (Ac rfl) (fun K hK=>?_) Aa.nil)))
    |refine Ab (rs:=[2,5]) (by decide +kernel) (by simp) (Aa.cons (Ac rfl) (fun K hK=>?_) (Aa.cons (Ac rfl) (fun K hK=>?_) Aa.nil))
    |refine Ab (rs:=[2,7]) (by decide +kernel) (by simp) (Aa.cons (Ac rfl) (fun K hK=>?_) (Aa.cons (Ac rfl) (fun K hK=>?_) Aa.nil))
    |refine Ab (rs:=[2,9]) (by decide +kernel) (by simp) (Aa.cons (Ac rfl) (fun K hK=>?_) (Aa.cons (Ac rfl) (fun K hK=>?_) Aa.nil))
    |refine Ab (rs:=[5,7]) (by decide +kernel) (by simp) (Aa.cons (Ac rfl) (fun K hK=>?_) (Aa.cons (Ac rfl) (fun K hK=>?_) Aa.nil))
    |refine Ab (rs:=[5,9]) (by decide +kernel) (by simp) (Aa.cons (Ac rfl) (fun K hK=>?_) (Aa.cons (Ac rfl) (fun K hK=>?_) Aa.nil))
    |refine Ab (rs:=[7,9]) (by decide +kernel) (by simp) (Aa.cons (Ac rfl) (fun K hK=>?_) (Aa.cons (Ac rfl) (fun K hK=>?_) Aa.nil))
    |refine Ab (rs:=[2]) (by decide +kernel) (by simp) (Aa.cons (Ac rfl) (fun K hK=>?_) Aa.nil)
    |refine Ab (rs:=[5]) (by decide +kernel) (by simp) (Aa.cons (Ac rfl) (fun K hK=>?_) Aa.nil)
    |refine Ab (rs:=[7]) (by decide +kernel) (by simp) (Aa.cons (Ac rfl) (fun K hK=>?_) Aa.nil)
    |refine Ab (rs:=[9]) (by decide +kernel) (by simp) (Aa.cons (Ac rfl) (fun K hK=>?_) Aa.nil)
   all_goals first
    |(refine step_h2 rfl _ _ rfl _ _ rfl rfl (fun gB wL hb hBk=>?_);replace hN:=Bk hb hN;replace hBl:=hBl.trans (hb.mono hBl.size);(try replace hM:=Bk hb hM);(try replace hR:=Bk hb hR);(try replace hA:=Bk hb hA);clear hb)
    |(refine step_mkz rfl _ rfl _ rfl (k+2) (by omega) (by omega) (fun gM wL csM hb hgM hM hsM=>?_);(try have hMR:gM≠gR:=Nat.ne_of_gt (Nat.lt_of_lt_of_le (Bl hR) hgM));have hNM:=Nat.le_trans (Nat.le_of_lt (Bl hN)) hgM;replace hN:=Bk hb hN;replace hBl:=hBl.trans (hb.mono hBl.size);(try replace hBk:=Bk hb hBk);(try replace hR:=Bk hb hR);(try replace hA:=Bk hb hA);clear hb)
    |(refine step_mkz rfl _ rfl _ rfl k (by omega) (by omega) (fun gR wL csR hb hgR hR hsR=>?_);(try have hMR:gM≠gR:=Nat.ne_of_lt (Nat.lt_of_lt_of_le (Bl hM) hgR));replace hN:=Bk hb hN;replace hBl:=hBl.trans (hb.mono hBl.size);(try replace hBk:=Bk hb hBk);(try replace hM:=Bk hb hM);(try replace hA:=Bk hb hA);clear hb)
    |(refine Ea rfl rfl (fun p wL hb hgA hA=>?_);have hNp:=Nat.lt_of_lt_of_le (Bl hN) hgA;replace hN:=Bk hb hN;replace hBl:=hBl.trans (hb.mono hBl.size);(try replace hBk:=Bk hb hBk);(try replace hM:=Bk hb hM);(try replace hR:=Bk hb hR);clear hb)
   all_goals refine hK.out _ _ (fun _=>trivial) (fun _=>?_)
   all_goals clear hK K
   all_goals try simp only[Act.put,Sa,Sb,Sc]
  all_goals try
   refine Ax (i:=8) (v:=?_) (Ac rfl) (by decide +kernel) (fun _ _ _ h=>h) (.inl ⟨by rfl,?_⟩) (fun _=>trivial) ?_;rotate_left
   ·intro w;go_simp;try with_reducible rfl
   try simp only[Act.put,Sa,Sb,Sc]
  all_goals (
   have hMp:gM≠p:=fun e=>by subst e;rw[hA]at hM;cases hM
   have hfin:=Az (Bj hBl (Nat.le_of_lt hNp) hA (.slice none 0 0) (.int .i64 0) (.int .i64 0) (.slice (some ⟨gB,0,none⟩) 2 2) (.slice (some ⟨gM,0,none⟩) (k+2) (k+2)) (.int .i64 0) (.slice (some ⟨gR,0,none⟩) k k));have c0:wL.cell? ⟨p,0,none⟩=some (.slice none 0 0):=(Bc hA 0).trans rfl;have c1:wL.cell? ⟨p,1,none⟩=some (.int .i64 0):=(Bc hA 1).trans rfl;have c2:wL.cell? ⟨p,2,none⟩=some (.int .i64 0):=(Bc hA 2).trans rfl;have c3:wL.cell? ⟨p,3,none⟩=some (.slice none 0 0):=(Bc hA 3).trans rfl;have c4:wL.cell? ⟨p,4,none⟩=some (.slice none 0 0):=(Bc hA 4).trans rfl;have c5:wL.cell? ⟨p,5,none⟩=some (.int .i64 0):=(Bc hA 5).trans rfl;have c6:wL.cell? ⟨p,6,none⟩=some (.slice none 0 0):=(Bc hA 6).trans rfl;have f0:=Bf hA 0;have f1:=Bf hA 1;have f2:=Bf hA 2;have f3:=Bf hA 3;have f4:=Bf hA 4;have f5:=Bf hA 5;have f6:=Bf hA 6;have z0:p<wL.heap.size:=Bl hA;have r1:=HRow.new (([1,(k:Int)+1]).map (Value.int .i64)) hBk rfl (by simp) (fun j u hj=>by simpa using hj);have r2:=HRow.zeros hM (by omega) hsM.2;have r3:=HRow.zeros hR (by omega) hsR.2;have q1:=Az (seven_H hA r1 (by decide) (.slice none 0 0) (.int .i64 0) (.int .i64 0) (.slice (some ⟨gB,0,none⟩) 2 2) (.slice (some ⟨gM,0,none⟩) (k+2) (k+2)) (.int .i64 0) (.slice (some ⟨gR,0,none⟩) k k));have q2:=Az (seven_H hA r2 (by decide) (.slice none 0 0) (.int .i64 0) (.int .i64 0) (.slice (some ⟨gB,0,none⟩) 2 2) (.slice (some ⟨gM,0,none⟩) (k+2) (k+2)) (.int .i64 0) (.slice (some ⟨gR,0,none⟩) k k));have q3:=Az (seven_H hA r3 (by decide) (.slice none 0 0) (.int .i64 0) (.int .i64 0) (.slice (some ⟨gB,0,none⟩) 2 2) (.slice (some ⟨gM,0,none⟩) (k+2) (k+2)) (.int .i64 0) (.slice (some ⟨gR,0,none⟩) k k));have hsZ:=hsM.1;have hDC:=Az (show ∀ (g n c:Nat),Value.slice (some ⟨gR,0,none⟩) k k=.slice (some ⟨g,0,none⟩) n c→(some ⟨gM,0,none⟩:Option Addr)≠some ⟨g,0,none⟩ from fun g n c hD hC=>hMR (by injection hD with a;injection a with a;injection a with a;injection hC with b;injection b with b;exact b.trans a.symm));clear r1 r2 r3 hBk hR hsM hsR;replace hN:=Az hN;replace hM:=Az hM;replace hNp:=Az hNp;replace hMp:=Az hMp;clear hA hBl;refine Ab (rs:=[10]) (by kernel_rfl) (by simp) ?_;refine Aa.cons (Ac rfl) (fun K hK=>?_) Aa.nil;go_simp
   go_wp2_with fail
   refine hK.out _ _ (fun _=>trivial) (fun _=>?_);try simp only[Act.put,Sa,Sb,Sc]
   refine AL (by kernel_rfl) ?_ _;go_wp2;go_meet
   obtain⟨g1,g2,g3⟩:=hfin.out _ rfl;exact⟨p,some ⟨gB,0,none⟩,some ⟨gM,0,none⟩,some ⟨gR,0,none⟩,2,k+2,2,k+2,k,rfl,⟨⟨g2,(g3 _ (Nat.ne_of_lt hNp.out)).trans hN.out,g1,hNp.out⟩⟩,⟨q1.out _ rfl,q2.out _ rfl,q3.out _ rfl⟩,hDC.out,gM,csM,rfl,rfl,hNM,⟨(g3 gM hMp.out).trans hM.out,hsZ⟩⟩)
 case rest =>
  obtain⟨p,B,C,D,n1,n2,k1,k2,k3,rfl,hB,hH,hDC,gM,csM,rfl,rfl,hNM,hM⟩:=hcut;have x2:wc.cell? ⟨p,4,none⟩=some (.slice (some ⟨gM,0,none⟩) (k+2) k2):=(Bc hB.out.q 4).trans rfl;have hsz:0<csM.size:=by rw[hM.out.2];omega
  have hsz2:k+1<csM.size:=by rw[hM.out.2];omega
  have y0:wc.cell? ⟨gM,0,none⟩=some csM[0]:=(Bc hM.out.1 0).trans (by simp[hsz]);have y1:wc.cell? ⟨gM,k+1,none⟩=some csM[k+1]:=(Bc hM.out.1 (k+1)).trans (by simp[hsz2]);have fy0:=Bf hM.out.1 0;have fy1:=Bf hM.out.1 (k+1);have zy:gM<wc.heap.size:=Bl hM.out.1;have hMp:gM≠p:=fun e=>by have h1:=hM.out.1;rw[e,hB.out.q]at h1;cases h1
  have hB8:=hB.out.far (g:=gM) (i:=0) (.int .u32 (2*(k:Int))) hNM hM.out.1 (by decide);have hB9:=hB8.far (g:=gM) (i:=k+1) (.int .u32 1) hNM (Bs hM.out.1 0 _) (by decide);replace hB9:=Az (hB9.keep (Bd (Below.refl _ _)));have y2:=(hH.out.2.1.put (i:=0) (x:=.int .u32 (2*(k:Int)))).put (i:=k+1) (x:=.int .u32 1);rw[←List.map_set,←List.map_set]at y2;have y3:=(hH.out.1.far (g:=gM) (i:=0) (x:=.int .u32 (2*(k:Int))) hM.out.1 (by decide)).far (g:=gM) (i:=k+1) (x:=.int .u32 1) (Bs hM.out.1 0 _) (by decide);have y4:=(hH.out.2.2.off (g:=gM) (i:=0) (x:=.int .u32 (2*(k:Int))) (fun g n c e1 e2=>hDC g n c e1 (by rw[e2]))).off (g:=gM) (i:=k+1) (x:=.int .u32 1) (fun g n c e1 e2=>hDC g n c e1 (by rw[e2]));have hH9:=Az (And.intro (y3.keep (Bd (Below.refl _ _))) (And.intro (y2.keep (Bd (Below.refl _ _))) (y4.keep (Bd (Below.refl _ _)))));clear y2 y3 y4 hH hDC;generalize csM[0]=v0 at y0;generalize csM[k+1]=v1 at y1;clear hM hB hsz hsz2 hB8;have hS:wc.drew.cell? ⟨p,4,none⟩=some (.slice (some ⟨gM,0,none⟩) (k+2) k2):=x2;have hs0:(0:Int)<((k+2:Nat):Int):=by omega
  have hs4:(0:Int)<(k:Int)+2:=by omega
  have hs5:(k:Int)+1<(k:Int)+2:=by omega
  have hs6:0<k+2:=by omega
  have hs1:(k:Int)+1<((k+2:Nat):Int):=by omega
  have hs2:(0:Int)≤(k:Int)+1:=by omega
  have hs3:((k:Int)+1).toNat=k+1:=by omega
  go_upto_region 4 with fail
  go_region_held3 (fun W=>W.cell? ⟨p,4,none⟩=some (.slice (some ⟨gM,0,none⟩) (k+2) k2)) (first |(with_reducible exact hS) |(with_reducible exact ML hMp (by assumption))) (first |fail)
  replace hB:=hB9;have hH:=hH9;clear hH9;clear hB9 x2 y0 y1 fy0 fy1 zy hS hs0 hs1 hs2 hs3 hs4 hs5 hs6;generalize ((wc.setCell ⟨gM,0,none⟩ (.int .u32 (2*(k:Int)))).setCell ⟨gM,k+1,none⟩ (.int .u32 1)).drew=wc at *;go_wp2_with fail
  refine(CT.out _).mono ?_;rintro e w1 ⟨rfl,rfl⟩;go_wp2_with fail
  refine(CA.out _ (he.below hB.out.b)).mono ?_;rintro e w2 ⟨va,rfl,hr,hb⟩;have hB2:=hB.out.keep hb;have hr2:=hr.mono hB.out.b.size;obtain⟨A,mm,c,rfl⟩:=AB hr;have x1:=Az (hB2.finH (va:=.slice A mm c) (At graunkeT).1.lock (At graunkeT).1.unlock (hH.out.1.keep hb) (by decide));have x2:=Az (hB2.finH (va:=.slice A mm c) (At graunkeT).1.lock (At graunkeT).1.unlock (hH.out.2.1.keep hb) (by decide));have x3:=Az (hB2.finH (va:=.slice A mm c) (At graunkeT).1.lock (At graunkeT).1.unlock (hH.out.2.2.keep hb) (by decide));have hfin:=Az (hB2.fin (At graunkeT).1.lock (At graunkeT).1.unlock hr2);have c0:w2.cell? ⟨p,0,none⟩=some (.slice none 0 0):=(Bc hB2.q 0).trans rfl;have c1:w2.cell? ⟨p,1,none⟩=some (.int .i64 0):=(Bc hB2.q 1).trans rfl;have c2:w2.cell? ⟨p,2,none⟩=some (.int .i64 0):=(Bc hB2.q 2).trans rfl;have c3:w2.cell? ⟨p,3,none⟩=some (.slice B n1 k1):=(Bc hB2.q 3).trans rfl;have c4:w2.cell? ⟨p,4,none⟩=some (.slice (some ⟨gM,0,none⟩) (k+2) k2):=(Bc hB2.q 4).trans rfl;have c5:w2.cell? ⟨p,5,none⟩=some (.int .i64 0):=(Bc hB2.q 5).trans rfl;have c6:w2.cell? ⟨p,6,none⟩=some (.slice D k k3):=(Bc hB2.q 6).trans rfl;have f0:=Bf hB2.q 0;have f1:=Bf hB2.q 1;have f2:=Bf hB2.q 2;have d0:w2.cell? ⟨w.heap.size,0,none⟩=some (.slice none 0 0):=(Bc hB2.c 0).trans rfl;have d1:w2.cell? ⟨w.heap.size,1,none⟩=some (.int .i64 0):=(Bc hB2.c 1).trans rfl;have d2:w2.cell? ⟨w.heap.size,2,none⟩=some (.int .i64 0):=(Bc hB2.c 2).trans rfl;have d3:w2.cell? ⟨w.heap.size,3,none⟩=some (.slice none 0 0):=(Bc hB2.c 3).trans rfl;have d4:w2.cell? ⟨w.heap.size,4,none⟩=some (.slice none 0 0):=(Bc hB2.c 4).trans rfl;have d5:w2.cell? ⟨w.heap.size,5,none⟩=some (.int .i64 0):=(Bc hB2.c 5).trans rfl;have d6:w2.cell? ⟨w.heap.size,6,none⟩=some (.slice none 0 0):=(Bc hB2.c 6).trans rfl;have e0:=Bf hB2.c 0;have e1:=Bf hB2.c 1;have e2:=Bf hB2.c 2;have e3:=Bf hB2.c 3;have e4:=Bf hB2.c 4;have e5:=Bf hB2.c 5;have e6:=Bf hB2.c 6;have z0:w.heap.size<w2.heap.size:=Bl hB2.c;have zp:p<w2.heap.size:=Bl hB2.q;have ne0:¬w.heap.size=p:=Nat.ne_of_lt hB2.ne;have ne1:¬p=w.heap.size:=Nat.ne_of_gt hB2.ne;clear hH hB hB2 hr hr2 hb CT CA;go_wp2;obtain⟨g1,g2,g3⟩:=hfin.out _ rfl;refine bodyPost_ret (Ah rfl _ _ w.heap.size 37 #[.slice A mm c,.int .i64 (At graunkeT).1.lock,.int .i64 (At graunkeT).1.unlock,.slice B n1 k1,.slice (some ⟨gM,0,none⟩) (k+2) k2,.int .i64 0,.slice D k k3] (0,0) _ rfl g1 Tryz.underlying37 rfl (by kernel_rfl)) rfl ⟨_,_,_,_,rfl,g2,x1.out _ rfl,x2.out _ rfl,x3.out _ rfl,g3⟩
theorem graunkeSpec_no(n:Int)(h:n<1∨64<n)(w:World):Calls Tryz.prog 51 #[.int .i64 n] w (DS w):=by
 have hN:=Bv w (.cells #[.slice none 0 0,.int .i64 0,.int .i64 0,.slice none 0 0,.slice none 0 0,.int .i64 0,.slice none 0 0] 37);have hb0:=Bw w (.cells #[.slice none 0 0,.int .i64 0,.int .i64 0,.slice none 0 0,.slice none 0 0,.int .i64 0,.slice none 0 0] 37);have hfin:=Dl hb0 hN;obtain⟨w0,hw0⟩:∃ y,w.alloc (.cells #[.slice none 0 0,.int .i64 0,.int .i64 0,.slice none 0 0,.slice none 0 0,.int .i64 0,.slice none 0 0] 37)=y:=⟨_,rfl⟩
 rw[hw0]at hfin hN;have d0:w0.cell? ⟨w.heap.size,0,none⟩=some (.slice none 0 0):=(Bc hN 0).trans rfl;have d1:w0.cell? ⟨w.heap.size,1,none⟩=some (.int .i64 0):=(Bc hN 1).trans rfl;have d2:w0.cell? ⟨w.heap.size,2,none⟩=some (.int .i64 0):=(Bc hN 2).trans rfl;have d3:w0.cell? ⟨w.heap.size,3,none⟩=some (.slice none 0 0):=(Bc hN 3).trans rfl;have d4:w0.cell? ⟨w.heap.size,4,none⟩=some (.slice none 0 0):=(Bc hN 4).trans rfl;have d5:w0.cell? ⟨w.heap.size,5,none⟩=some (.int .i64 0):=(Bc hN 5).trans rfl;have d6:w0.cell? ⟨w.heap.size,6,none⟩=some (.slice none 0 0):=(Bc hN 6).trans rfl;have e0:=Bf hN 0;have e1:=Bf hN 1;have e2:=Bf hN 2;have e3:=Bf hN 3;have e4:=Bf hN 4;have e5:=Bf hN 5;have e6:=Bf hN 6;have z0:w.heap.size<w0.heap.size:=Bl hN;replace hfin:=Az hfin;clear hN hb0;go_enter Tryz.func51,Tryz.ntmps51;go_upto_region 1 with fail
 try rw[hw0]
 clear hw0;go_cut [10] (fun v wx=>v=.bool true∧wx=w0)
 case first =>
  rcases h with h |h
  ·have hd1:decide (n<1)=true:=decide_eq_true h;go_wp2;go_meet
   exact⟨rfl,rfl⟩
  ·have hd1:decide (n<1)=false:=decide_eq_false (by omega);have hd2:decide (64<n)=true:=decide_eq_true h;go_wp2;go_meet
   exact⟨rfl,rfl⟩
 case rest =>
  obtain⟨rfl,rfl⟩:=hcut;go_wp2;obtain⟨g1,g2⟩:=hfin.out _ rfl;refine bodyPost_ret (Ah rfl _ _ w.heap.size 37 #[.slice none 0 0,.int .i64 0,.int .i64 0,.slice none 0 0,.slice none 0 0,.int .i64 0,.slice none 0 0] (0,0) _ rfl g1 Tryz.underlying37 rfl (by kernel_rfl)) rfl ⟨rfl,g2⟩
end
end Go.Proofs.YtjjpiefgdggghaaGreatDoor

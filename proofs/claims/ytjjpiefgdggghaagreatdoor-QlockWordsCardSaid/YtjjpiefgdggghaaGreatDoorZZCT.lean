/- Parts: HasClhTry. -/
import Derived.Test.YtjjpiefgdggghaaGreatDoorZ02
import Derived.Test.YtjjpiefgdggghaaGreatDoorZ10
import Derived.Test.YtjjpiefgdggghaaGreatDoorZ28
set_option linter.unusedVariables false
set_option linter.unusedSimpArgs false
set_option maxRecDepth 100000
set_option maxHeartbeats 40000000
namespace Go.Proofs.YtjjpiefgdggghaaGreatDoor
section
open Go.RowKit Go.Proofs.YtjjpiefgdggghaaGreatDoorW.PrintWords
def clhtryT:List UInt8:=[108,111,99,107,58,10,116,97,107,101,32,114,55,10,98,101,113,32,114,55,32,114,48,32,102,117,108,108,10,115,116,111,114,101,32,49,32,114,55,32,114,48,10,115,119,97,112,32,114,54,32,48,32,114,48,32,114,55,10,109,97,114,107,32,49,10,108,111,111,107,58,10,99,111,110,115,116,32,114,49,32,49,10,97,119,97,105,116,32,114,50,32,49,32,114,54,32,110,101,32,114,48,32,101,108,115,101,32,108,101,97,118,101,10,98,101,113,32,114,50,32,114,49,32,103,111,116,10,102,114,101,101,32,114,54,10,97,100,100,107,32,114,54,32,114,50,32,52,50,57,52,57,54,55,50,57,52,10,106,117,109,112,32,108,111,111,107,10,103,111,116,58,10,109,97,114,107,32,50,10,102,114,101,101,32,114,54,10,100,111,110,101,32,49,10,108,101,97,118,101,58,10,99,97,115,32,114,51,32,48,32,114,48,32,114,55,32,114,54,10,98,101,113,32,114,51,32,114,48,32,115,116,97,121,10,109,97,114,107,32,51,10,102,114,101,101,32,114,55,10,100,111,110,101,32,48,10,115,116,97,121,58,10,97,100,100,107,32,114,51,32,114,54,32,50,10,115,116,111,114,101,32,49,32,114,55,32,114,51,10,109,97,114,107,32,51,10,100,111,110,101,32,48,10,102,117,108,108,58,10,100,111,110,101,32,51,10,117,110,108,111,99,107,58,10,99,111,110,115,116,32,114,49,32,49,10,115,116,111,114,101,32,49,32,114,55,32,114,49,10,109,97,114,107,32,52,10,100,111,110,101,32,50,10]
theorem clhtry_len:clhtryT.length≤90000:=by decide +kernel
theorem clhtry_few:(At clhtryT).1.l.length≤1000:=by decide +kernel
theorem clhtryText_calls(W:World):Calls Tryz.prog 83 #[] W fun e W'=>e=.returned (.string ⟨clhtryT.toArray⟩)∧W'=W:=by
 go_enter Tryz.func83,Tryz.ntmps83;go_wp2;go_ret;exact⟨rfl,rfl⟩
theorem clhtrySpec_has(k e:Nat)(h1:1≤k)(h2:k≤64)(h3:2≤e)(h4:e≤8)(w:World)(he:Env w):Calls Tryz.prog 54 #[.int .i64 (k:Int),.int .i64 (e:Int)] w (SpecHas w clhtryT [1,(k:Int)*(e:Int)+1] ((List.replicate (k*e+2) (0:Int)).set 1 1) (List.replicate k (0:Int)) (e:Int)):=by
 have hd1:decide ((k:Int)<1)=false:=decide_eq_false (by omega);have hd2:decide ((64:Int)<(k:Int))=false:=decide_eq_false (by omega);have hd3:decide ((e:Int)<2)=false:=decide_eq_false (by omega);have hd4:decide ((8:Int)<(e:Int))=false:=decide_eq_false (by omega);obtain⟨m,hm,hm2⟩:∃ m:Nat,(k:Int)*(e:Int)=(m:Int)∧m≤512∧2≤m+1 :=
  ⟨k*e,by simp,Nat.le_trans (Nat.mul_le_mul h2 h4) (by decide),by have:=Nat.mul_le_mul h1 h3;omega⟩
 have hm3:2*(k:Int)*(e:Int)=2*(m:Int):=by rw[Int.mul_assoc,hm]
 have hw0:IntKind.i64.wrap ((k:Int)*(e:Int))=(m:Int):=by rw[hm,IntKind.wrap_i64];omega
 have hw1:IntKind.i64.wrap ((m:Int)+1)=(m:Int)+1:=by rw[IntKind.wrap_i64];omega
 have hw2:IntKind.i64.wrap ((m:Int)+2)=(m:Int)+2:=by rw[IntKind.wrap_i64];omega
 have hmn:k*e=m:=by omega
 rw[hmn,hm];clear hm hm3 hmn;have CT:=Az (fun W=>clhtryText_calls W);have CA:=Az (fun(W:World) (heW:Env W)=>C9 clhtryT W heW clhtry_len);have hN:=Bv w (.cells #[.slice none 0 0,.int .i64 0,.int .i64 0,.slice none 0 0,.slice none 0 0,.int .i64 0,.slice none 0 0] 37);have hb0:=Bw w (.cells #[.slice none 0 0,.int .i64 0,.int .i64 0,.slice none 0 0,.slice none 0 0,.int .i64 0,.slice none 0 0] 37);obtain⟨w0,hw0⟩:∃ y,w.alloc (.cells #[.slice none 0 0,.int .i64 0,.int .i64 0,.slice none 0 0,.slice none 0 0,.int .i64 0,.slice none 0 0] 37)=y:=⟨_,rfl⟩
 rw[hw0]at hN hb0;go_enter Tryz.func54,Tryz.ntmps54;go_upto_region 3 with fail
 try rw[hw0]
 clear hw0;go_cut [6] (fun v wx=>∃ (p:Nat) (B C D:Option Addr) (n1 n2 k1 k2 k3:Nat),v=.pointer (some ⟨p,0,none⟩)∧Ai (SpB w wx w.heap.size p B C D n1 n2 k k1 k2 k3 ((e:Int)))∧Ai (HRow wx (.slice B n1 k1) 3 (([1,(m:Int)+1]).map (Value.int .i64))∧HRow wx (.slice C n2 k2) 45 ((List.replicate (m+2) (0:Int)).map (Value.int .u32))∧HRow wx (.slice D k k3) 45 ((List.replicate k (0:Int)).map (Value.int .u32)))∧(∀ (g n c:Nat),Value.slice D k k3=.slice (some ⟨g,0,none⟩) n c→C≠some ⟨g,0,none⟩)∧∃ (gM:Nat) (csM:Array Value),C=some ⟨gM,0,none⟩∧n2=m+2∧w.heap.size≤gM∧Ai (wx.heap[gM]?=some (.cells csM 45 (0,0))∧csM.size=m+2))
 case first =>
  refine Aw [] (S:=fun _=>True) (by kernel_rfl) trivial (fun _=>?_);replace hN:=Bk (Bd (Below.refl _ w0)) hN;have hBl:=hb0.trans ((Bd (Below.refl _ w0)).mono hb0.size);clear hb0 CT CA;generalize w0.drew=w0 at *;refine tY 0 (fun _=>trivial) ?_;refine tY 1 (fun _=>trivial) ?_;refine tY 2 (fun _=>trivial) ?_;refine tY 3 (fun _=>trivial) ?_;refine tY 5 (fun _=>trivial) ?_;refine tY 6 (fun _=>trivial) ?_;refine tY 7 (fun _=>trivial) ?_;refine tY 8 (fun _=>trivial) ?_;refine tY 10 (fun _=>trivial) ?_;refine tY 11 (fun _=>trivial) ?_;iterate 4
   all_goals try
    refine Ax (i:=13) (v:=?_) (Ac rfl) (by decide +kernel) (fun _ _ _ h=>h) (.inl ⟨by rfl,?_⟩) (fun _=>trivial) ?_;rotate_left
    ·intro w;go_simp;try with_reducible rfl
    try simp only[Act.put,Sa,Sb,Sc]
   all_goals first
    |refine Ab (rs:=[4,9,12,14]) (by decide +kernel) (by simp) (Aa.cons (Ac rfl) (fun K hK=>?_) (Aa.cons (Ac rfl) (fun K hK=>?_) (Aa.cons (Ac rfl) (fun K hK=>?_) (Aa.cons (Ac rfl) (fun K hK=>?_) Aa.nil))))
    |refine Ab (rs:=[4,9,12]) (by decide +kernel) (by simp) (Aa.cons (Ac rfl) (fun K hK=>?_) (Aa.cons (Ac rfl) (fun K hK=>?_) (Aa.cons (Ac rfl) (fun K hK=>?_) Aa.nil)))
    |refine Ab (rs:=[4,9,14]) (by decide +kernel) (by simp) (Aa.cons (Ac rfl) (fun K hK=>?_) (Aa.cons (Ac rfl) (fun K hK=>?_) (Aa.cons (Ac rfl) (fun K hK=>?_) Aa.nil)))
    |refine Ab (rs:=[4,12,14]) (by decide +kernel) (by simp) (Aa.cons (Ac rfl) (fun K hK=>?_) (Aa.cons (Ac rfl) (fun K hK=>?_) (Aa.cons (Ac rfl) (fun K hK=>?_) Aa.nil)))
    |refine Ab (rs:=[9,12,14]) (by decide +kernel) (by simp) (Aa.cons (Ac rfl) (fun K hK=>?_) (Aa.cons (Ac rfl) (fun K hK=>?_) (Aa.cons (Ac rfl) (fun K hK=>?_) Aa.nil)))
    |refine Ab (rs:=[4,9]) (by decide +kernel) (by simp) (Aa.cons (Ac rfl) (fun K hK=>?_) (Aa.cons (Ac rfl) (fun K hK=>?_) Aa.nil))
    |refine Ab (rs:=[4,12]) (by decide +kernel) (by simp) (Aa.cons (Ac rfl) (fun K hK=>?_) (Aa.cons (Ac rfl) (fun K hK=>?_) Aa.nil))
    |refine Ab (rs:=[4,14]) (by decide +kernel) (by simp) (Aa.cons (Ac rfl) (fun K hK=>?_) (Aa.cons (Ac rfl) (fun K hK=>?_) Aa.nil))
    |refine Ab (rs:=[9,12]) (by decide +kernel) (by simp) (Aa.cons (Ac rfl) (fun K hK=>?_) (Aa.cons (Ac rfl) (fun K hK=>?_) Aa.nil))
    |refine Ab (rs:=[9,14]) (by decide +kernel) (by simp) (Aa.cons (Ac rfl) (fun K hK=>?_) (Aa.cons (Ac rfl) (fun K hK=>?_) Aa.nil))
    |refine Ab (rs:=[12,14]) (by decide +kernel) (by simp) (Aa.cons (Ac rfl) (fun K hK=>?_) (Aa.cons (Ac rfl) (fun K hK=>?_) Aa.nil))
    |refine Ab (rs:=[4]) (by decide +kernel) (by simp) (Aa.cons (Ac rfl) (fun K hK=>?_) Aa.nil)
    |refine Ab (rs:=[9]) (by decide +kernel) (by simp) (Aa.cons (Ac rfl) (fun K hK=>?_) Aa.nil)
    |refine Ab (rs:=[12]) (by decide +kernel) (by simp) (Aa.cons (Ac rfl) (fun K hK=>?_) Aa.nil)
    |refine Ab (rs:=[14]) (by decide +kernel) (by simp) (Aa.cons (Ac rfl) (fun K hK=>?_) Aa.nil)
   all_goals first
    |(refine step_h2 rfl _ _ rfl _ _ rfl rfl (fun gB wL hb hBk=>?_);replace hN:=Bk hb hN;replace hBl:=hBl.trans (hb.mono hBl.size);(try replace hM:=Bk hb hM);(try replace hR:=Bk hb hR);(try replace hA:=Bk hb hA);clear hb)
    |(refine step_mkz rfl _ rfl _ rfl (m+2) (by omega) (by omega) (fun gM wL csM hb hgM hM hsM=>?_);(try have hMR:gM≠gR:=Nat.ne_of_gt (Nat.lt_of_lt_of_le (Bl hR) hgM));have hNM:=Nat.le_trans (Nat.le_of_lt (Bl hN)) hgM;replace hN:=Bk hb hN;replace hBl:=hBl.trans (hb.mono hBl.size);(try replace hBk:=Bk hb hBk);(try replace hR:=Bk hb hR);(try replace hA:=Bk hb hA);clear hb)
    |(refine step_mkz rfl _ rfl _ rfl k (by omega) (by omega) (fun gR wL csR hb hgR hR hsR=>?_);(try have hMR:gM≠gR:=Nat.ne_of_lt (Nat.lt_of_lt_of_le (Bl hM) hgR));replace hN:=Bk hb hN;replace hBl:=hBl.trans (hb.mono hBl.size);(try replace hBk:=Bk hb hBk);(try replace hM:=Bk hb hM);(try replace hA:=Bk hb hA);clear hb)
    |(refine Ea rfl rfl (fun p wL hb hgA hA=>?_);have hNp:=Nat.lt_of_lt_of_le (Bl hN) hgA;replace hN:=Bk hb hN;replace hBl:=hBl.trans (hb.mono hBl.size);(try replace hBk:=Bk hb hBk);(try replace hM:=Bk hb hM);(try replace hR:=Bk hb hR);clear hb)
   all_goals refine hK.out _ _ (fun _=>trivial) (fun _=>?_)
   all_goals clear hK K
   all_goals try simp only[Act.put,Sa,Sb,Sc]
  all_goals try
   refine Ax (i:=13) (v:=?_) (Ac rfl) (by decide +kernel) (fun _ _ _ h=>h) (.inl ⟨by rfl,?_⟩) (fun _=>trivial) ?_;rotate_left
   ·intro w;go_simp;try with_reducible rfl
   try simp only[Act.put,Sa,Sb,Sc]
  all_goals (
   have hMp:gM≠p:=fun e=>by subst e;rw[hA]at hM;cases hM
   have hfin:=Az (Bj hBl (Nat.le_of_lt hNp) hA (.slice none 0 0) (.int .i64 0) (.int .i64 0) (.slice (some ⟨gB,0,none⟩) 2 2) (.slice (some ⟨gM,0,none⟩) (m+2) (m+2)) (.int .i64 (e:Int)) (.slice (some ⟨gR,0,none⟩) k k));have c0:wL.cell? ⟨p,0,none⟩=some (.slice none 0 0):=(Bc hA 0).trans rfl;have c1:wL.cell? ⟨p,1,none⟩=some (.int .i64 0):=(Bc hA 1).trans rfl;have c2:wL.cell? ⟨p,2,none⟩=some (.int .i64 0):=(Bc hA 2).trans rfl;have c3:wL.cell? ⟨p,3,none⟩=some (.slice none 0 0):=(Bc hA 3).trans rfl;have c4:wL.cell? ⟨p,4,none⟩=some (.slice none 0 0):=(Bc hA 4).trans rfl;have c5:wL.cell? ⟨p,5,none⟩=some (.int .i64 0):=(Bc hA 5).trans rfl;have c6:wL.cell? ⟨p,6,none⟩=some (.slice none 0 0):=(Bc hA 6).trans rfl;have f0:=Bf hA 0;have f1:=Bf hA 1;have f2:=Bf hA 2;have f3:=Bf hA 3;have f4:=Bf hA 4;have f5:=Bf hA 5;have f6:=Bf hA 6;have z0:p<wL.heap.size:=Bl hA;have r1:=HRow.new (([1,(m:Int)+1]).map (Value.int .i64)) hBk rfl (by simp) (fun j u hj=>by simpa using hj);have r2:=HRow.zeros hM (by omega) hsM.2;have r3:=HRow.zeros hR (by omega) hsR.2;have q1:=Az (seven_H hA r1 (by decide) (.slice none 0 0) (.int .i64 0) (.int .i64 0) (.slice (some ⟨gB,0,none⟩) 2 2) (.slice (some ⟨gM,0,none⟩) (m+2) (m+2)) (.int .i64 (e:Int)) (.slice (some ⟨gR,0,none⟩) k k));have q2:=Az (seven_H hA r2 (by decide) (.slice none 0 0) (.int .i64 0) (.int .i64 0) (.slice (some ⟨gB,0,none⟩) 2 2) (.slice (some ⟨gM,0,none⟩) (m+2) (m+2)) (.int .i64 (e:Int)) (.slice (some ⟨gR,0,none⟩) k k));have q3:=Az (seven_H hA r3 (by decide) (.slice none 0 0) (.int .i64 0) (.int .i64 0) (.slice (some ⟨gB,0,none⟩) 2 2) (.slice (some ⟨gM,0,none⟩) (m+2) (m+2)) (.int .i64 (e:Int)) (.slice (some ⟨gR,0,none⟩) k k));have hsZ:=hsM.1;have hDC:=Az (show ∀ (g n c:Nat),Value.slice (some ⟨gR,0,none⟩) k k=.slice (some ⟨g,0,none⟩) n c→(some ⟨gM,0,none⟩:Option Addr)≠some ⟨g,0,none⟩ from fun g n c hD hC=>hMR (by injection hD with a;injection a with a;injection a with a;injection hC with b;injection b with b;exact b.trans a.symm));clear r1 r2 r3 hBk hR hsM hsR;replace hN:=Az hN;replace hM:=Az hM;replace hNp:=Az hNp;replace hMp:=Az hMp;clear hA hBl;refine Ab (rs:=[15]) (by kernel_rfl) (by simp) ?_;refine Aa.cons (Ac rfl) (fun K hK=>?_) Aa.nil;go_simp
   go_wp2_with fail
   refine hK.out _ _ (fun _=>trivial) (fun _=>?_);try simp only[Act.put,Sa,Sb,Sc]
   refine AL (by kernel_rfl) ?_ _;go_wp2;go_meet
   obtain⟨g1,g2,g3⟩:=hfin.out _ rfl;exact⟨p,some ⟨gB,0,none⟩,some ⟨gM,0,none⟩,some ⟨gR,0,none⟩,2,m+2,2,m+2,k,rfl,⟨⟨g2,(g3 _ (Nat.ne_of_lt hNp.out)).trans hN.out,g1,hNp.out⟩⟩,⟨q1.out _ rfl,q2.out _ rfl,q3.out _ rfl⟩,hDC.out,gM,csM,rfl,rfl,hNM,⟨(g3 gM hMp.out).trans hM.out,hsZ⟩⟩)
 case rest =>
  obtain⟨p,B,C,D,n1,n2,k1,k2,k3,rfl,hB,hH,hDC,gM,csM,rfl,rfl,hNM,hM⟩:=hcut;have x2:wc.cell? ⟨p,4,none⟩=some (.slice (some ⟨gM,0,none⟩) (m+2) k2):=(Bc hB.out.q 4).trans rfl;have hsz:1<csM.size:=by rw[hM.out.2];omega
  have y1:wc.cell? ⟨gM,1,none⟩=some csM[1]:=(Bc hM.out.1 1).trans (by simp[hsz]);have fy1:=Bf hM.out.1 1;have zy:gM<wc.heap.size:=Bl hM.out.1;have hsl:(1:Int)<((m+2:Nat):Int):=by omega
  have hB9:=Az (hB.out.far (g:=gM) (i:=1) (.int .u32 1) hNM hM.out.1 (by decide));have y2:=hH.out.2.1.put (i:=1) (x:=.int .u32 1);rw[←List.map_set]at y2;have hH9:=Az (And.intro (hH.out.1.far (g:=gM) (i:=1) (x:=.int .u32 1) hM.out.1 (by decide)) (And.intro y2 (hH.out.2.2.off (g:=gM) (i:=1) (x:=.int .u32 1) (fun g n c e1 e2=>hDC g n c e1 (by rw[e2])))));clear y2 hH hDC;generalize csM[1]=v1 at y1;clear hM hB hsz;go_upto_region 5 with fail
  replace hB:=hB9;have hH:=hH9;clear hH9;clear hB9 x2 y1 fy1 zy hsl;generalize wc.setCell ⟨gM,1,none⟩ (.int .u32 1)=wc at *;go_wp2_with fail
  refine(CT.out _).mono ?_;rintro e w1 ⟨rfl,rfl⟩;go_wp2_with fail
  refine(CA.out _ (he.below hB.out.b)).mono ?_;rintro e w2 ⟨va,rfl,hr,hb⟩;have hB2:=hB.out.keep hb;have hr2:=hr.mono hB.out.b.size;obtain⟨A,mm,c,rfl⟩:=AB hr;have x1:=Az (hB2.finH (va:=.slice A mm c) (At clhtryT).1.lock (At clhtryT).1.unlock (hH.out.1.keep hb) (by decide));have x2:=Az (hB2.finH (va:=.slice A mm c) (At clhtryT).1.lock (At clhtryT).1.unlock (hH.out.2.1.keep hb) (by decide));have x3:=Az (hB2.finH (va:=.slice A mm c) (At clhtryT).1.lock (At clhtryT).1.unlock (hH.out.2.2.keep hb) (by decide));have hfin:=Az (hB2.fin (At clhtryT).1.lock (At clhtryT).1.unlock hr2);have c0:w2.cell? ⟨p,0,none⟩=some (.slice none 0 0):=(Bc hB2.q 0).trans rfl;have c1:w2.cell? ⟨p,1,none⟩=some (.int .i64 0):=(Bc hB2.q 1).trans rfl;have c2:w2.cell? ⟨p,2,none⟩=some (.int .i64 0):=(Bc hB2.q 2).trans rfl;have c3:w2.cell? ⟨p,3,none⟩=some (.slice B n1 k1):=(Bc hB2.q 3).trans rfl;have c4:w2.cell? ⟨p,4,none⟩=some (.slice (some ⟨gM,0,none⟩) (m+2) k2):=(Bc hB2.q 4).trans rfl;have c5:w2.cell? ⟨p,5,none⟩=some (.int .i64 (e:Int)):=(Bc hB2.q 5).trans rfl;have c6:w2.cell? ⟨p,6,none⟩=some (.slice D k k3):=(Bc hB2.q 6).trans rfl;have f0:=Bf hB2.q 0;have f1:=Bf hB2.q 1;have f2:=Bf hB2.q 2;have d0:w2.cell? ⟨w.heap.size,0,none⟩=some (.slice none 0 0):=(Bc hB2.c 0).trans rfl;have d1:w2.cell? ⟨w.heap.size,1,none⟩=some (.int .i64 0):=(Bc hB2.c 1).trans rfl;have d2:w2.cell? ⟨w.heap.size,2,none⟩=some (.int .i64 0):=(Bc hB2.c 2).trans rfl;have d3:w2.cell? ⟨w.heap.size,3,none⟩=some (.slice none 0 0):=(Bc hB2.c 3).trans rfl;have d4:w2.cell? ⟨w.heap.size,4,none⟩=some (.slice none 0 0):=(Bc hB2.c 4).trans rfl;have d5:w2.cell? ⟨w.heap.size,5,none⟩=some (.int .i64 0):=(Bc hB2.c 5).trans rfl;have d6:w2.cell? ⟨w.heap.size,6,none⟩=some (.slice none 0 0):=(Bc hB2.c 6).trans rfl;have e0:=Bf hB2.c 0;have e1:=Bf hB2.c 1;have e2:=Bf hB2.c 2;have e3:=Bf hB2.c 3;have e4:=Bf hB2.c 4;have e5:=Bf hB2.c 5;have e6:=Bf hB2.c 6;have z0:w.heap.size<w2.heap.size:=Bl hB2.c;have zp:p<w2.heap.size:=Bl hB2.q;have ne0:¬w.heap.size=p:=Nat.ne_of_lt hB2.ne;have ne1:¬p=w.heap.size:=Nat.ne_of_gt hB2.ne;clear hH hB hB2 hr hr2 hb CT CA;go_wp2;obtain⟨g1,g2,g3⟩:=hfin.out _ rfl;refine bodyPost_ret (Ah rfl _ _ w.heap.size 37 #[.slice A mm c,.int .i64 (At clhtryT).1.lock,.int .i64 (At clhtryT).1.unlock,.slice B n1 k1,.slice (some ⟨gM,0,none⟩) (m+2) k2,.int .i64 (e:Int),.slice D k k3] (0,0) _ rfl g1 Tryz.underlying37 rfl (by kernel_rfl)) rfl ⟨_,_,_,_,rfl,g2,x1.out _ rfl,x2.out _ rfl,x3.out _ rfl,g3⟩
theorem clhtrySpec_no(n m:Int)(h:n<1∨64<n∨m<2∨8<m)(w:World):Calls Tryz.prog 54 #[.int .i64 n,.int .i64 m] w (DS w):=by
 have hN:=Bv w (.cells #[.slice none 0 0,.int .i64 0,.int .i64 0,.slice none 0 0,.slice none 0 0,.int .i64 0,.slice none 0 0] 37);have hb0:=Bw w (.cells #[.slice none 0 0,.int .i64 0,.int .i64 0,.slice none 0 0,.slice none 0 0,.int .i64 0,.slice none 0 0] 37);have hfin:=Dl hb0 hN;obtain⟨w0,hw0⟩:∃ y,w.alloc (.cells #[.slice none 0 0,.int .i64 0,.int .i64 0,.slice none 0 0,.slice none 0 0,.int .i64 0,.slice none 0 0] 37)=y:=⟨_,rfl⟩
 rw[hw0]at hfin hN;have d0:w0.cell? ⟨w.heap.size,0,none⟩=some (.slice none 0 0):=(Bc hN 0).trans rfl;have d1:w0.cell? ⟨w.heap.size,1,none⟩=some (.int .i64 0):=(Bc hN 1).trans rfl;have d2:w0.cell? ⟨w.heap.size,2,none⟩=some (.int .i64 0):=(Bc hN 2).trans rfl;have d3:w0.cell? ⟨w.heap.size,3,none⟩=some (.slice none 0 0):=(Bc hN 3).trans rfl;have d4:w0.cell? ⟨w.heap.size,4,none⟩=some (.slice none 0 0):=(Bc hN 4).trans rfl;have d5:w0.cell? ⟨w.heap.size,5,none⟩=some (.int .i64 0):=(Bc hN 5).trans rfl;have d6:w0.cell? ⟨w.heap.size,6,none⟩=some (.slice none 0 0):=(Bc hN 6).trans rfl;have e0:=Bf hN 0;have e1:=Bf hN 1;have e2:=Bf hN 2;have e3:=Bf hN 3;have e4:=Bf hN 4;have e5:=Bf hN 5;have e6:=Bf hN 6;have z0:w.heap.size<w0.heap.size:=Bl hN;replace hfin:=Az hfin;clear hN hb0;go_enter Tryz.func54,Tryz.ntmps54;go_upto_region 1 with fail
 try rw[hw0]
 clear hw0;go_cut [20] (fun v wx=>v=.bool true∧wx=w0)
 case first =>
  rcases h with h |h |h |h
  ·have hd1:decide (n<1)=true:=decide_eq_true h;go_wp2;go_meet
   exact⟨rfl,rfl⟩
  ·have hd1:decide (n<1)=false:=decide_eq_false (by omega);have hd2:decide (64<n)=true:=decide_eq_true h;go_wp2;go_meet
   exact⟨rfl,rfl⟩
  ·by_cases a1:n<1
   ·have hd1:decide (n<1)=true:=decide_eq_true a1;go_wp2;go_meet
    exact⟨rfl,rfl⟩
   ·have hd1:decide (n<1)=false:=decide_eq_false a1;by_cases a2:64<n
    ·have hd2:decide (64<n)=true:=decide_eq_true a2;go_wp2;go_meet
     exact⟨rfl,rfl⟩
    ·have hd2:decide (64<n)=false:=decide_eq_false a2;have hd3:decide (m<2)=true:=decide_eq_true h;go_wp2;go_meet
     exact⟨rfl,rfl⟩
  ·have hd3:decide (m<2)=false:=decide_eq_false (by omega);have hd4:decide (8<m)=true:=decide_eq_true h;by_cases a1:n<1
   ·have hd1:decide (n<1)=true:=decide_eq_true a1;go_wp2;go_meet
    exact⟨rfl,rfl⟩
   ·have hd1:decide (n<1)=false:=decide_eq_false a1;by_cases a2:64<n
    ·have hd2:decide (64<n)=true:=decide_eq_true a2;go_wp2;go_meet
     exact⟨rfl,rfl⟩
    ·have hd2:decide (64<n)=false:=decide_eq_false a2;go_wp2;go_meet
     exact⟨rfl,rfl⟩
 case rest =>
  obtain⟨rfl,rfl⟩:=hcut;go_wp2;obtain⟨g1,g2⟩:=hfin.out _ rfl;refine bodyPost_ret (Ah rfl _ _ w.heap.size 37 #[.slice none 0 0,.int .i64 0,.int .i64 0,.slice none 0 0,.slice none 0 0,.int .i64 0,.slice none 0 0] (0,0) _ rfl g1 Tryz.underlying37 rfl (by kernel_rfl)) rfl ⟨rfl,g2⟩
end
end Go.Proofs.YtjjpiefgdggghaaGreatDoor

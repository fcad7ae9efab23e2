/- Parts: HasAnderson, ServP, LawKit. -/
import Derived.Test.YtjjpiefgdggghaaGreatDoorA03
import Derived.Test.YtjjpiefgdggghaaGreatDoorA13
import Derived.Test.YtjjpiefgdggghaaGreatDoorA31
import Derived.Test.YtjjpiefgdggghaaGreatDoorA39
import Derived.Test.YtjjpiefgdggghaaGreatDoorA10
import Derived.Test.YtjjpiefgdggghaaGreatDoorA41
import Derived.Test.YtjjpiefgdggghaaGreatDoorA11
import Derived.Test.YtjjpiefgdggghaaGreatDoorA40
import Derived.Test.YtjjpiefgdggghaaGreatDoorA23
set_option linter.unusedVariables false
set_option linter.unusedSimpArgs false
set_option maxRecDepth 100000
set_option maxHeartbeats 40000000
namespace Go.Proofs.YtjjpiefgdggghaaGreatDoor
section
open Go.RowKit Go.Proofs.YtjjpiefgdggghaaGreatDoorW.PrintWords
theorem V7{W:World}{g i:Nat}{a:Addr}{y v:Value}(hg:g≠a.block)(h:W.drew.cell? a=some y):(W.setCell ⟨g,i,none⟩ v).drew.cell? a=some y :=
 (World.cell?_setCell_far W ⟨g,i,none⟩ a v hg).trans h
theorem Kz{M:Nat}(h:FB M):(⟨Vq.toArray⟩:ByteArray).size+Lib.countB ⟨Vq.toArray⟩ ⟨UP.toArray⟩*(⟨(No M).toArray⟩:ByteArray).size≤140737488355328:=by
 rcases h with rfl |rfl |rfl |rfl |rfl |rfl |rfl<;>decide +kernel
theorem E1{M:Nat}(hM:FB M)(W:World)(he:Env W):Calls Tryz.prog 21 #[.int .i64 ((M:Int)+1)] W fun e W'=>e=.returned (.string ⟨(Dn M).toArray⟩)∧Below W.heap.size W W':=by
 have hmt:=CF hM;have hwa:IntKind.i64.wrap ((M:Int)+1-1)=(M:Int):=by rw[IntKind.wrap_i64];omega
 have hr:=SM hM;have CI:=Az (fun(W:World) (heW:Env W)=>GN (M:Int) (by omega) (by omega) W heW);have CR:=Az (fun(W:World) (heW:Env W)=>Tryz.strings_ReplaceAll_shaped ⟨Vq.toArray⟩ ⟨UP.toArray⟩ ⟨(No M).toArray⟩ W heW.shaped (by decide +kernel) (by decide) (Kz hM));have hd:Lib.decDigits ((M:Int)).toNat=No M:=OA hM;simp only[hd]at CI;have e1:Lib.replaceAll (⟨Vq.toArray⟩:ByteArray).data.toList (⟨UP.toArray⟩:ByteArray).data.toList (⟨(No M).toArray⟩:ByteArray).data.toList=Dn M:=hr;rw[e1]at CR;clear hr e1 hd;replace he:=Az he;go_enter Tryz.func21,Tryz.ntmps21;go_wp2_with fail
 refine(CI.out _ he.out).mono ?_;rintro e w1 ⟨rfl,hb1⟩;replace hb1:=Az hb1;go_wp2_with fail
 refine(CR.out _ (he.out.below hb1.out)).mono ?_;rintro e w2 ⟨rfl,hb2⟩;replace hb1:=Az (hb1.out.trans (hb2.mono hb1.out.size));clear hb2 CI CR;go_wp2;go_ret;exact⟨rfl,hb1.out⟩
theorem DN(k M st:Nat)(hM:FB M)(hst:st<4294967296)(h1:1≤k)(h2:k≤M+1)(w:World)(he:Env w):Calls Tryz.prog 17 #[.int .i64 (k:Int),.int .i64 ((M:Int)+1),.int .u32 (st:Int)] w (SpecHas w (Dn M) [1,(M:Int)+1] (Sm M st) (List.replicate k (0:Int)) 0):=by
 have hmt:=CF hM;have hd1:decide ((k:Int)<1)=false:=decide_eq_false (by omega);have hd2:decide ((64:Int)<(k:Int))=false:=decide_eq_false (by omega);have hd3:decide ((M:Int)+1<(k:Int))=false:=decide_eq_false (by omega);have hd4:decide ((64:Int)<(M:Int)+1)=false:=decide_eq_false (by omega);have hwa:IntKind.i64.wrap ((M:Int)+1-1)=(M:Int):=by rw[IntKind.wrap_i64];omega
 have hwh:IntKind.i64.wrap (M:Int)=(M:Int):=by rw[IntKind.wrap_i64];omega
 have hwb:IntKind.i64.wrap ((M:Int)+1+1)=(M:Int)+2:=by rw[IntKind.wrap_i64];omega
 have hwc:=Uw hM;have hwd:IntKind.i64.wrap (st:Int)=(st:Int):=by rw[IntKind.wrap_i64];omega
 have hwe:=Rn hM hst;obtain⟨P,hP⟩:∃ x,st%(M+1)=x:=⟨_,rfl⟩
 have hPM:P≤M:=by have h9:st%(M+1)<M+1:=Nat.mod_lt st (Nat.succ_pos M);omega
 obtain⟨Q,hQ⟩:∃ x,1+P=x:=⟨_,rfl⟩
 have hQM:1≤Q∧Q≤M+1:=by omega
 have hq1:¬(0:Nat)=Q:=by omega
 have hq2:¬Q=0:=by omega
 have hwf:IntKind.i64.wrap (1+(P:Int))=(Q:Int):=by rw[IntKind.wrap_i64];omega
 rw[hP]at hwe;have hZ:Sm M st=((List.replicate (M+2) (0:Int)).set 0 (st:Int)).set Q 1:=by unfold Sm;rw[hP,hQ]
 rw[hZ];clear hZ hP hQ;have CT:=Az (fun(W:World) (heW:Env W)=>E1 hM W heW);have CA:=Az (fun(W:World) (heW:Env W)=>PJ (Dn M) W heW (Rl hM));have hN:=Bv w (.cells #[.slice none 0 0,.int .i64 0,.int .i64 0,.slice none 0 0,.slice none 0 0,.int .i64 0,.slice none 0 0] 37);have hb0:=Bw w (.cells #[.slice none 0 0,.int .i64 0,.int .i64 0,.slice none 0 0,.slice none 0 0,.int .i64 0,.slice none 0 0] 37);obtain⟨w0,hw0⟩:∃ y,w.alloc (.cells #[.slice none 0 0,.int .i64 0,.int .i64 0,.slice none 0 0,.slice none 0 0,.int .i64 0,.slice none 0 0] 37)=y:=⟨_,rfl⟩
 rw[hw0]at hN hb0;go_enter Tryz.func17,Tryz.ntmps17;go_upto_region 3 with fail
 try rw[hw0]
 clear hw0;go_cut [8] (fun v wx=>∃ (p:Nat) (B C D:Option Addr) (n1 n2 k1 k2 k3:Nat),v=.pointer (some ⟨p,0,none⟩)∧Ag (SpB w wx w.heap.size p B C D n1 n2 k k1 k2 k3 (0))∧Ag (HRow wx (.slice B n1 k1) 3 (([1,(M:Int)+1]).map (Value.int .i64))∧HRow wx (.slice C n2 k2) 45 ((List.replicate (M+2) (0:Int)).map (Value.int .u32))∧HRow wx (.slice D k k3) 45 ((List.replicate k (0:Int)).map (Value.int .u32)))∧(∀ (g n c:Nat),Value.slice D k k3=.slice (some ⟨g,0,none⟩) n c→C≠some ⟨g,0,none⟩)∧∃ (gM:Nat) (csM:Array Value),C=some ⟨gM,0,none⟩∧n2=M+2∧w.heap.size≤gM∧Ag (wx.heap[gM]?=some (.cells csM 45 (0,0))∧csM.size=M+2))
 case first =>
  refine Av [] (S:=fun _=>True) (by kernel_rfl) trivial (fun _=>?_);replace hN:=Bk (Bd (Below.refl _ w0)) hN;have hBl:=hb0.trans ((Bd (Below.refl _ w0)).mono hb0.size);clear hb0 CT CA;generalize w0.drew=w0 at *;refine tY 0 (fun _=>trivial) ?_;refine tY 2 (fun _=>trivial) ?_;refine tY 3 (fun _=>trivial) ?_;refine tY 5 (fun _=>trivial) ?_;iterate 4
   all_goals try
    refine Bo (i:=7) (v:=?_) (Au rfl) (by decide +kernel) (fun _ _ _ h=>h) (.inl ⟨by rfl,?_⟩) (fun _=>trivial) ?_;rotate_left
    ·intro w;go_simp;try with_reducible rfl
    try simp only[Act.put,Sa,Sb,Sc]
   all_goals first
    |refine Ab (rs:=[1,4,6,8]) (by decide +kernel) (by simp) (Aa.cons (Au rfl) (fun K hK=>?_) (Aa.cons (Au rfl) (fun K hK=>?_) (Aa.cons (Au rfl) (fun K hK=>?_) (Aa.cons (Au rfl) (fun K hK=>?_) Aa.nil))))
    |refine Ab (rs:=[1,4,6]) (by decide +kernel) (by simp) (Aa.cons (Au rfl) (fun K hK=>?_) (Aa.cons (Au rfl) (fun K hK=>?_) (Aa.cons (Au rfl) (fun K hK=>?_) Aa.nil)))
    |refine Ab (rs:=[1,4,8]) (by decide +kernel) (by simp) (Aa.cons (Au rfl) (fun K hK=>?_) (Aa.cons (Au rfl) (fun K hK=>?_) (Aa.cons (Au rfl) (fun K hK=>?_) Aa.nil)))
    |refine Ab (rs:=[1,6,8]) (by decide +kernel) (by simp) (Aa.cons (Au rfl) (fun K hK=>?_) (Aa.cons (Au rfl) (fun K hK=>?_) (Aa.cons (Au rfl) (fun K hK=>?_) Aa.nil)))
    |refine Ab (rs:=[4,6,8]) (by decide +kernel) (by simp) (Aa.cons (Au rfl) (fun K hK=>?_) (Aa.cons (Au rfl) (fun K hK=>?_) (Aa.cons (Au rfl) (fun K hK=>?_) Aa.nil)))
    |refine Ab (rs:=[1,4]) (by decide +kernel) (by simp) (Aa.cons (Au rfl) (fun K hK=>?_) (Aa.cons (Au rfl) (fun K hK=>?_) Aa.nil))
    |refine Ab (rs:=[1,6]) (by decide +kernel) (by simp) (Aa.cons (Au rfl) (fun K hK=>?_) (Aa.cons (Au rfl) (fun K hK=>?_) Aa.nil))
    |refine Ab (rs:=[1,8]) (by decide +kernel) (by simp) (Aa.cons (Au rfl) (fun K hK=>?_) (Aa.cons (Au rfl) (fun K hK=>?_) Aa.nil))
    |refine Ab (rs:=[4,6]) (by decide +kernel) (by simp) (Aa.cons (Au rfl) (fun K hK=>?_) (Aa.cons (Au rfl) (fun K hK=>?_) Aa.nil))
    |refine Ab (rs:=[4,8]) (by decide +kernel) (by simp) (Aa.cons (Au rfl) (fun K hK=>?_) (Aa.cons (Au rfl) (fun K hK=>?_) Aa.nil))
    |refine Ab (rs:=[6,8]) (by decide +kernel) (by simp) (Aa.cons (Au rfl) (fun K hK=>?_) (Aa.cons (Au rfl) (fun K hK=>?_) Aa.nil))
    |refine Ab (rs:=[1]) (by decide +kernel) (by simp) (Aa.cons (Au rfl) (fun K hK=>?_) Aa.nil)
    |refine Ab (rs:=[4]) (by decide +kernel) (by simp) (Aa.cons (Au rfl) (fun K hK=>?_) Aa.nil)
    |refine Ab (rs:=[6]) (by decide +kernel) (by simp) (Aa.cons (Au rfl) (fun K hK=>?_) Aa.nil)
    |refine Ab (rs:=[8]) (by decide +kernel) (by simp) (Aa.cons (Au rfl) (fun K hK=>?_) Aa.nil)
   all_goals first
    |(refine step_h2 rfl _ _ rfl _ _ rfl rfl (fun gB wL hb hBk=>?_);replace hN:=Bk hb hN;replace hBl:=hBl.trans (hb.mono hBl.size);(try replace hM:=Bk hb hM);(try replace hR:=Bk hb hR);(try replace hA:=Bk hb hA);clear hb)
    |(refine step_mkz rfl _ rfl _ rfl (M+2) (by omega) (by omega) (fun gM wL csM hb hgM hM hsM=>?_);(try have hMR:gM≠gR:=Nat.ne_of_gt (Nat.lt_of_lt_of_le (Bl hR) hgM));have hNM:=Nat.le_trans (Nat.le_of_lt (Bl hN)) hgM;replace hN:=Bk hb hN;replace hBl:=hBl.trans (hb.mono hBl.size);(try replace hBk:=Bk hb hBk);(try replace hR:=Bk hb hR);(try replace hA:=Bk hb hA);clear hb)
    |(refine step_mkz rfl _ rfl _ rfl k (by omega) (by omega) (fun gR wL csR hb hgR hR hsR=>?_);(try have hMR:gM≠gR:=Nat.ne_of_lt (Nat.lt_of_lt_of_le (Bl hM) hgR));replace hN:=Bk hb hN;replace hBl:=hBl.trans (hb.mono hBl.size);(try replace hBk:=Bk hb hBk);(try replace hM:=Bk hb hM);(try replace hA:=Bk hb hA);clear hb)
    |(refine Re rfl rfl (fun p wL hb hgA hA=>?_);have hNp:=Nat.lt_of_lt_of_le (Bl hN) hgA;replace hN:=Bk hb hN;replace hBl:=hBl.trans (hb.mono hBl.size);(try replace hBk:=Bk hb hBk);(try replace hM:=Bk hb hM);(try replace hR:=Bk hb hR);clear hb)
   all_goals refine hK.out _ _ (fun _=>trivial) (fun _=>?_)
   all_goals clear hK K
   all_goals try simp only[Act.put,Sa,Sb,Sc]
  all_goals try
   refine Bo (i:=7) (v:=?_) (Au rfl) (by decide +kernel) (fun _ _ _ h=>h) (.inl ⟨by rfl,?_⟩) (fun _=>trivial) ?_;rotate_left
   ·intro w;go_simp;try with_reducible rfl
   try simp only[Act.put,Sa,Sb,Sc]
  all_goals (
   have hMp:gM≠p:=fun e=>by subst e;rw[hA]at hM;cases hM
   have hfin:=Az (KH hBl (Nat.le_of_lt hNp) hA (.slice none 0 0) (.int .i64 0) (.int .i64 0) (.slice (some ⟨gB,0,none⟩) 2 2) (.slice (some ⟨gM,0,none⟩) (M+2) (M+2)) (.int .i64 0) (.slice (some ⟨gR,0,none⟩) k k));have c0:wL.cell? ⟨p,0,none⟩=some (.slice none 0 0):=(Bc hA 0).trans rfl;have c1:wL.cell? ⟨p,1,none⟩=some (.int .i64 0):=(Bc hA 1).trans rfl;have c2:wL.cell? ⟨p,2,none⟩=some (.int .i64 0):=(Bc hA 2).trans rfl;have c3:wL.cell? ⟨p,3,none⟩=some (.slice none 0 0):=(Bc hA 3).trans rfl;have c4:wL.cell? ⟨p,4,none⟩=some (.slice none 0 0):=(Bc hA 4).trans rfl;have c5:wL.cell? ⟨p,5,none⟩=some (.int .i64 0):=(Bc hA 5).trans rfl;have c6:wL.cell? ⟨p,6,none⟩=some (.slice none 0 0):=(Bc hA 6).trans rfl;have f0:=Bf hA 0;have f1:=Bf hA 1;have f2:=Bf hA 2;have f3:=Bf hA 3;have f4:=Bf hA 4;have f5:=Bf hA 5;have f6:=Bf hA 6;have z0:p<wL.heap.size:=Bl hA;have r1:=HRow.new (([1,(M:Int)+1]).map (Value.int .i64)) hBk rfl (by simp) (fun j u hj=>by simpa using hj);have r2:=HRow.zeros hM (by omega) hsM.2;have r3:=HRow.zeros hR (by omega) hsR.2;have q1:=Az (seven_H hA r1 (by decide) (.slice none 0 0) (.int .i64 0) (.int .i64 0) (.slice (some ⟨gB,0,none⟩) 2 2) (.slice (some ⟨gM,0,none⟩) (M+2) (M+2)) (.int .i64 0) (.slice (some ⟨gR,0,none⟩) k k));have q2:=Az (seven_H hA r2 (by decide) (.slice none 0 0) (.int .i64 0) (.int .i64 0) (.slice (some ⟨gB,0,none⟩) 2 2) (.slice (some ⟨gM,0,none⟩) (M+2) (M+2)) (.int .i64 0) (.slice (some ⟨gR,0,none⟩) k k));have q3:=Az (seven_H hA r3 (by decide) (.slice none 0 0) (.int .i64 0) (.int .i64 0) (.slice (some ⟨gB,0,none⟩) 2 2) (.slice (some ⟨gM,0,none⟩) (M+2) (M+2)) (.int .i64 0) (.slice (some ⟨gR,0,none⟩) k k));have hsZ:=hsM.1;have hDC:=Az (show ∀ (g n c:Nat),Value.slice (some ⟨gR,0,none⟩) k k=.slice (some ⟨g,0,none⟩) n c→(some ⟨gM,0,none⟩:Option Addr)≠some ⟨g,0,none⟩ from fun g n c hD hC=>hMR (by injection hD with a;injection a with a;injection a with a;injection hC with b;injection b with b;exact b.trans a.symm));clear r1 r2 r3 hBk hR hsM hsR;replace hN:=Az hN;replace hM:=Az hM;replace hNp:=Az hNp;replace hMp:=Az hMp;clear hA hBl;refine Ab (rs:=[9]) (by kernel_rfl) (by simp) ?_;refine Aa.cons (Au rfl) (fun K hK=>?_) Aa.nil;go_simp
   go_wp2_with fail
   refine hK.out _ _ (fun _=>trivial) (fun _=>?_);try simp only[Act.put,Sa,Sb,Sc]
   refine Ax (by kernel_rfl) ?_ _;go_wp2;go_meet
   obtain⟨g1,g2,g3⟩:=hfin.out _ rfl;exact⟨p,some ⟨gB,0,none⟩,some ⟨gM,0,none⟩,some ⟨gR,0,none⟩,2,M+2,2,M+2,k,rfl,⟨⟨g2,(g3 _ (Nat.ne_of_lt hNp.out)).trans hN.out,g1,hNp.out⟩⟩,⟨q1.out _ rfl,q2.out _ rfl,q3.out _ rfl⟩,hDC.out,gM,csM,rfl,rfl,hNM,⟨(g3 gM hMp.out).trans hM.out,hsZ⟩⟩)
 case rest =>
  obtain⟨p,B,C,D,n1,n2,k1,k2,k3,rfl,hB,hH,hDC,gM,csM,rfl,rfl,hNM,hM⟩:=hcut;have x2:wc.cell? ⟨p,4,none⟩=some (.slice (some ⟨gM,0,none⟩) (M+2) k2):=(Bc hB.out.q 4).trans rfl;have hsz:0<csM.size:=by rw[hM.out.2];omega
  have hsz2:Q<csM.size:=by rw[hM.out.2];omega
  have y0:wc.cell? ⟨gM,0,none⟩=some csM[0]:=(Bc hM.out.1 0).trans (by simp[hsz]);have y1:wc.cell? ⟨gM,Q,none⟩=some csM[Q]:=(Bc hM.out.1 (Q)).trans (by simp[hsz2]);have fy0:=Bf hM.out.1 0;have fy1:=Bf hM.out.1 (Q);have zy:gM<wc.heap.size:=Bl hM.out.1;have hMp:gM≠p:=fun e=>by have h1:=hM.out.1;rw[e,hB.out.q]at h1;cases h1
  have hB8:=hB.out.far (g:=gM) (i:=0) (.int .u32 (st:Int)) hNM hM.out.1 (by decide);have hB9:=hB8.far (g:=gM) (i:=Q) (.int .u32 1) hNM (Bs hM.out.1 0 _) (by decide);replace hB9:=Az (hB9.keep (Bd (Below.refl _ _)));have y2:=(hH.out.2.1.put (i:=0) (x:=.int .u32 (st:Int))).put (i:=Q) (x:=.int .u32 1);rw[←List.map_set,←List.map_set]at y2;have y3:=(hH.out.1.far (g:=gM) (i:=0) (x:=.int .u32 (st:Int)) hM.out.1 (by decide)).far (g:=gM) (i:=Q) (x:=.int .u32 1) (Bs hM.out.1 0 _) (by decide);have y4:=(hH.out.2.2.off (g:=gM) (i:=0) (x:=.int .u32 (st:Int)) (fun g n c e1 e2=>hDC g n c e1 (by rw[e2]))).off (g:=gM) (i:=Q) (x:=.int .u32 1) (fun g n c e1 e2=>hDC g n c e1 (by rw[e2]));have hH9:=Az (And.intro (y3.keep (Bd (Below.refl _ _))) (And.intro (y2.keep (Bd (Below.refl _ _))) (y4.keep (Bd (Below.refl _ _)))));clear y2 y3 y4 hH hDC;generalize csM[0]=v0 at y0;generalize csM[Q]=v1 at y1;clear hM hB hsz hsz2 hB8;have hS:wc.drew.cell? ⟨p,4,none⟩=some (.slice (some ⟨gM,0,none⟩) (M+2) k2):=x2;have hs0:(0:Int)<((M+2:Nat):Int):=by omega
  have hs4:(0:Int)<(M:Int)+2:=by omega
  have hs5:(Q:Int)<(M:Int)+2:=by omega
  have hs6:0<M+2:=by omega
  have hs1:(Q:Int)<((M+2:Nat):Int):=by omega
  have hs2:(0:Int)≤(Q:Int):=by omega
  go_upto_region 4 with fail
  go_region_held3 (fun W=>W.cell? ⟨p,4,none⟩=some (.slice (some ⟨gM,0,none⟩) (M+2) k2)) (first |(with_reducible exact hS) |(with_reducible exact V7 hMp (by assumption))) (first |fail)
  replace hB:=hB9;have hH:=hH9;clear hH9;clear hB9 x2 y0 y1 fy0 fy1 zy hS hs0 hs1 hs2 hs4 hs5 hs6;generalize ((wc.setCell ⟨gM,0,none⟩ (.int .u32 (st:Int))).setCell ⟨gM,Q,none⟩ (.int .u32 1)).drew=wc at *;go_wp2_with fail
  refine(CT.out _ (he.below hB.out.b)).mono ?_;rintro e w1 ⟨rfl,hb1⟩;replace hB:=Az (hB.out.keep hb1);replace hH:=Az (And.intro (hH.out.1.keep hb1) (And.intro (hH.out.2.1.keep hb1) (hH.out.2.2.keep hb1)));clear hb1;go_wp2_with fail
  refine(CA.out _ (he.below hB.out.b)).mono ?_;rintro e w2 ⟨va,rfl,hr,hb⟩;have hB2:=hB.out.keep hb;have hr2:=hr.mono hB.out.b.size;obtain⟨A,mm,c,rfl⟩:=AV hr;have x1:=Az (hB2.finH (va:=.slice A mm c) (BW (Dn M)).1.lock (BW (Dn M)).1.unlock (hH.out.1.keep hb) (by decide));have x2:=Az (hB2.finH (va:=.slice A mm c) (BW (Dn M)).1.lock (BW (Dn M)).1.unlock (hH.out.2.1.keep hb) (by decide));have x3:=Az (hB2.finH (va:=.slice A mm c) (BW (Dn M)).1.lock (BW (Dn M)).1.unlock (hH.out.2.2.keep hb) (by decide));have hfin:=Az (hB2.fin (BW (Dn M)).1.lock (BW (Dn M)).1.unlock hr2);have c0:w2.cell? ⟨p,0,none⟩=some (.slice none 0 0):=(Bc hB2.q 0).trans rfl;have c1:w2.cell? ⟨p,1,none⟩=some (.int .i64 0):=(Bc hB2.q 1).trans rfl;have c2:w2.cell? ⟨p,2,none⟩=some (.int .i64 0):=(Bc hB2.q 2).trans rfl;have c3:w2.cell? ⟨p,3,none⟩=some (.slice B n1 k1):=(Bc hB2.q 3).trans rfl;have c4:w2.cell? ⟨p,4,none⟩=some (.slice (some ⟨gM,0,none⟩) (M+2) k2):=(Bc hB2.q 4).trans rfl;have c5:w2.cell? ⟨p,5,none⟩=some (.int .i64 0):=(Bc hB2.q 5).trans rfl;have c6:w2.cell? ⟨p,6,none⟩=some (.slice D k k3):=(Bc hB2.q 6).trans rfl;have f0:=Bf hB2.q 0;have f1:=Bf hB2.q 1;have f2:=Bf hB2.q 2;have d0:w2.cell? ⟨w.heap.size,0,none⟩=some (.slice none 0 0):=(Bc hB2.c 0).trans rfl;have d1:w2.cell? ⟨w.heap.size,1,none⟩=some (.int .i64 0):=(Bc hB2.c 1).trans rfl;have d2:w2.cell? ⟨w.heap.size,2,none⟩=some (.int .i64 0):=(Bc hB2.c 2).trans rfl;have d3:w2.cell? ⟨w.heap.size,3,none⟩=some (.slice none 0 0):=(Bc hB2.c 3).trans rfl;have d4:w2.cell? ⟨w.heap.size,4,none⟩=some (.slice none 0 0):=(Bc hB2.c 4).trans rfl;have d5:w2.cell? ⟨w.heap.size,5,none⟩=some (.int .i64 0):=(Bc hB2.c 5).trans rfl;have d6:w2.cell? ⟨w.heap.size,6,none⟩=some (.slice none 0 0):=(Bc hB2.c 6).trans rfl;have e0:=Bf hB2.c 0;have e1:=Bf hB2.c 1;have e2:=Bf hB2.c 2;have e3:=Bf hB2.c 3;have e4:=Bf hB2.c 4;have e5:=Bf hB2.c 5;have e6:=Bf hB2.c 6;have z0:w.heap.size<w2.heap.size:=Bl hB2.c;have zp:p<w2.heap.size:=Bl hB2.q;have ne0:¬w.heap.size=p:=Nat.ne_of_lt hB2.ne;have ne1:¬p=w.heap.size:=Nat.ne_of_gt hB2.ne;clear hH hB hB2 hr hr2 hb CT CA;go_wp2;obtain⟨g1,g2,g3⟩:=hfin.out _ rfl;refine bodyPost_ret (Bi rfl _ _ w.heap.size 37 #[.slice A mm c,.int .i64 (BW (Dn M)).1.lock,.int .i64 (BW (Dn M)).1.unlock,.slice B n1 k1,.slice (some ⟨gM,0,none⟩) (M+2) k2,.int .i64 0,.slice D k k3] (0,0) _ rfl g1 Tryz.underlying37 rfl (by kernel_rfl)) rfl ⟨_,_,_,_,rfl,g2,x1.out _ rfl,x2.out _ rfl,x3.out _ rfl,g3⟩
theorem FD(n sl st:Int)(h:¬Lt n sl)(w:World):Calls Tryz.prog 17 #[.int .i64 n,.int .i64 sl,.int .u32 st] w (QU w):=by
 have hN:=Bv w (.cells #[.slice none 0 0,.int .i64 0,.int .i64 0,.slice none 0 0,.slice none 0 0,.int .i64 0,.slice none 0 0] 37);have hb0:=Bw w (.cells #[.slice none 0 0,.int .i64 0,.int .i64 0,.slice none 0 0,.slice none 0 0,.int .i64 0,.slice none 0 0] 37);have hfin:=QW hb0 hN;obtain⟨w0,hw0⟩:∃ y,w.alloc (.cells #[.slice none 0 0,.int .i64 0,.int .i64 0,.slice none 0 0,.slice none 0 0,.int .i64 0,.slice none 0 0] 37)=y:=⟨_,rfl⟩
 rw[hw0]at hfin hN;have d0:w0.cell? ⟨w.heap.size,0,none⟩=some (.slice none 0 0):=(Bc hN 0).trans rfl;have d1:w0.cell? ⟨w.heap.size,1,none⟩=some (.int .i64 0):=(Bc hN 1).trans rfl;have d2:w0.cell? ⟨w.heap.size,2,none⟩=some (.int .i64 0):=(Bc hN 2).trans rfl;have d3:w0.cell? ⟨w.heap.size,3,none⟩=some (.slice none 0 0):=(Bc hN 3).trans rfl;have d4:w0.cell? ⟨w.heap.size,4,none⟩=some (.slice none 0 0):=(Bc hN 4).trans rfl;have d5:w0.cell? ⟨w.heap.size,5,none⟩=some (.int .i64 0):=(Bc hN 5).trans rfl;have d6:w0.cell? ⟨w.heap.size,6,none⟩=some (.slice none 0 0):=(Bc hN 6).trans rfl;have e0:=Bf hN 0;have e1:=Bf hN 1;have e2:=Bf hN 2;have e3:=Bf hN 3;have e4:=Bf hN 4;have e5:=Bf hN 5;have e6:=Bf hN 6;have z0:w.heap.size<w0.heap.size:=Bl hN;replace hfin:=Az hfin;clear hN hb0;go_enter Tryz.func17,Tryz.ntmps17;go_upto_region 1 with fail
 try rw[hw0]
 clear hw0;go_cut [30] (fun v wx=>v=.bool true∧wx=w0)
 case first =>
  by_cases c1:n<1
  ·have hd1:decide (n<1)=true:=decide_eq_true c1;go_wp2;go_meet
   exact⟨rfl,rfl⟩
  have hd1:decide (n<1)=false:=decide_eq_false c1;by_cases c2:64<n
  ·have hd2:decide (64<n)=true:=decide_eq_true c2;go_wp2;go_meet
   exact⟨rfl,rfl⟩
  have hd2:decide (64<n)=false:=decide_eq_false c2;by_cases c3:sl<n
  ·have hd3:decide (sl<n)=true:=decide_eq_true c3;go_wp2;go_meet
   exact⟨rfl,rfl⟩
  have hd3:decide (sl<n)=false:=decide_eq_false c3;by_cases c4:64<sl
  ·have hd4:decide (64<sl)=true:=decide_eq_true c4;go_wp2;go_meet
   exact⟨rfl,rfl⟩
  have hd4:decide (64<sl)=false:=decide_eq_false c4;have hwa:IntKind.i64.wrap (sl-1)=sl-1:=by rw[IntKind.wrap_i64];omega
  have hwc:=Ux h (by omega) (by omega) (by omega);have hwb:(bits .and .i64 sl (sl-1) != 0)=true:=bne_iff_ne.2 hwc;go_wp2;go_meet
  exact⟨rfl,rfl⟩
 case rest =>
  obtain⟨rfl,rfl⟩:=hcut;go_wp2;obtain⟨g1,g2⟩:=hfin.out _ rfl;refine bodyPost_ret (Bi rfl _ _ w.heap.size 37 #[.slice none 0 0,.int .i64 0,.int .i64 0,.slice none 0 0,.slice none 0 0,.int .i64 0,.slice none 0 0] (0,0) _ rfl g1 Tryz.underlying37 rfl (by kernel_rfl)) rfl ⟨rfl,g2⟩
theorem Dw(w:World)(he:Env w):Calls Tryz.prog 20 #[] w fun e w'=>e=.returned (.bool true)∧Below w.heap.size w w':=by
 have C:=DN 2 3 5 (.inr (.inr (.inl rfl))) (by decide) (by decide) (by decide) w he;unfold SpecHas at C;have hm:=Rm;generalize BW (Dn 3)=fin at C hm;obtain⟨⟨fl,fa,fb⟩,f1,f2⟩:=fin;dsimp only at C hm;replace C:=Az C;replace hm:=Az hm;go_enter Tryz.func20,Tryz.ntmps20;go_wp2_with fail
 refine C.out.mono ?_;rintro e w1 ⟨va,vs,vi,vr,rfl,hr,h1,h2,h3,hb⟩;obtain⟨B,k1,rfl⟩:=h1.rdn.slice;obtain⟨C',k2,rfl⟩:=h2.rdn.slice;obtain⟨D,k3,e3⟩:=h3.rdn.slice;have e4:vr=.slice D 2 k3:=e3;subst e4;obtain⟨A,c,rfl⟩:=(Cy.rd hr).slice;have hd:decide ((4:Int)<(fl.length:Int))=true:=decide_eq_true (by have:=hm.out;omega);have hb2:=Az (fun o=>hb.alloc hb.size o);clear hr hb C hm;go_wp2;go_ret;exact⟨rfl,hb2.out _⟩
def DU.Qh(v:DU)(t:Nat):DU :=
 if v.r.act.getD t 0=0∧v.left.getD t 0 > 0 then {v with left:=v.left.set t (v.left.getD t 0-1),r:=v.r.op 1 t 0}
 else if v.r.act.getD t 0=2 then {v with Fb:=v.Fb+1,r:=v.r.op 2 t 0}
 else {v with r:=v.r.op 3 t 0}
theorem DU.RS(v:DU)(t:Nat):v.DV t={v.Qh t with busy:=(v.Qh t).busy||decide ((v.Qh t).r.act.getD t 0≠0)||decide ((v.Qh t).left.getD t 0 > 0)}:=rfl
structure GB (v:DU) (n m:Nat):Prop where
 fit:Dr v.r
 act:v.r.act.length=n
 left:v.left.length=n
 l:v.r.l.length≤302*m
 Fb:v.Fb≤m
 lb:∀ t,v.left.getD t 0≤1000
theorem U7(n c t:Nat):(List.replicate n c).getD t 0≤c:=by
 rw[List.getD_eq_getElem?_getD,List.getElem?_replicate];split<;>simp
theorem GB.Qh{v:DU}{n m:Nat}(h:GB v n m)(t:Nat):GB (v.Qh t) n (m+1):=by
 have hg:=h.Fb;have hl:=h.l;unfold DU.Qh;split
 ·have s:=Fu v.r 1 t 0 h.fit.marks;have:=s.l;exact⟨h.fit.same s,s.act.trans h.act,by simpa using h.left,by dsimp only;omega,by dsimp only;omega,fun u=>by
   have h1:=h.lb u;have h2:=h.lb t;by_cases e:u=t
   ·subst e;by_cases hu:u<v.left.length
    ·show lf (v.left.set u (v.left.getD u 0-1)) u≤1000
     rw[Ua hu];omega
    ·show(v.left.set u (v.left.getD u 0-1)).getD u 0≤1000
     rw[List.getD_eq_getElem?_getD,List.getElem?_eq_none (by simp;omega)];simp
   ·show lf (v.left.set t (v.left.getD t 0-1)) u≤1000
    rw[RT e];exact h1⟩
 ·split
  ·have s:=Fu v.r 2 t 0 h.fit.marks;have:=s.l;exact⟨h.fit.same s,s.act.trans h.act,h.left,by dsimp only;omega,by dsimp only;omega,h.lb⟩
  ·have s:=Fu v.r 3 t 0 h.fit.marks;have:=s.l;exact⟨h.fit.same s,s.act.trans h.act,h.left,by dsimp only;omega,by dsimp only;omega,h.lb⟩
theorem GB.DV{v:DU}{n m:Nat}(h:GB v n m)(t:Nat):GB (v.DV t) n (m+1):=by
 have:=h.Qh t;rw[DU.RS];exact⟨this.fit,this.act,this.left,this.l,this.Fb,this.lb⟩
theorem DU.fold_succ(v:DU)(j:Nat):(List.range (j+1)).foldl DU.DV v=((List.range j).foldl DU.DV v).DV j:=by
 rw[List.range_succ,List.foldl_append];rfl
theorem DU.rounds_succ(n k:Nat)(v:DU):v.rounds n (k+1)=if (v.round n).busy=false∨(v.round n).r.bad=true then v.round n else (v.round n).rounds n k:=rfl
section
variable {w W W1:World} {pr px:Nat} {vl vc vw vr vd ve:Value} {pl:Option Addr} {r:AH}
theorem C5.far(h:C5 w W pr px vl vc vw vr pl vd ve r){gl j:Nat}{cs:Array Value}(hl:W.heap[gl]?=some (.cells cs 3 (0,0)))(hw:w.heap.size≤gl)(hne:¬Jn vd gl)(v:Value):C5 w (W.setCell ⟨gl,j,none⟩ v) pr px vl vc vw vr pl vd ve r:=by
 obtain⟨acc,hbx⟩:=h.x.bx;have far:∀ k,k≠gl→(W.setCell ⟨gl,j,none⟩ v).heap[k]?=W.heap[k]?:=fun k hk=>Below.heap_setCell W ⟨gl,j,none⟩ v k hk
 refine⟨⟨h.x.b.setCell (p:=⟨gl,j,none⟩) hw v,h.x.Ko,⟨acc,(far _ (C0 hbx hl (by decide))).trans hbx⟩,h.x.code,Rs h.x.cells hl (by decide) j v,Rs h.x.words hl (by decide) j v,Rs h.x.AG hl (by decide) j v,h.x.ok,h.x.Sl⟩,
  h.HX,(far _ (C0 h.br hl (by decide))).trans h.br,Om h.act (fun k hk=>far k (fun e=>hne (by rw[←e];exact hk))),Rs h.l hl (by decide) j v⟩
theorem OH{N g n c k v:Nat}{L:List Nat}(h:BL W N (.slice (some ⟨g,0,none⟩) n c) L)(hL:L.length=n)(hk:k<n):BL (W.setCell ⟨g,k,none⟩ (.int .i64 (v:Int))) N (.slice (some ⟨g,0,none⟩) n c) (L.set k v):=by
 subst hL;have:=Dk h k (by omega) (.int .i64 (v:Int));unfold BL;simp only[List.length_set,List.map_set];exact this
theorem ET{N g n c k:Nat}{L:List Nat}(h:BL W N (.slice (some ⟨g,0,none⟩) n c) L)(hL:L.length=n)(hk:k<n) :
  N≤g∧(∃ cs,W.heap[g]?=some (.cells cs 3 (0,0)))∧W.cell? ⟨g,k,none⟩=some (.int .i64 ((L.getD k 0:Nat):Int)):=by
 subst hL;obtain⟨g',c',hv,_,hg,⟨cs,hcs,_⟩,hc⟩:=Cw h (by omega);have e:g=g':=by injection hv with h1 _ _;injection h1 with h1;injection h1
 subst e;exact⟨hg,⟨cs,hcs⟩,hc k _ (by simp[List.getD_eq_getElem?_getD,List.getElem?_eq_getElem hk])⟩
theorem BL.keep{N:Nat}{v:Value}{L:List Nat}(h:BL W N v L)(hb:Below W.heap.size W W1):BL W1 N v L:=Om h (fun k hk=>hb.block k (Ol h k hk))
end
def UQ(v:Int):Bool:=decide (0≤v)&&decide (v<8)
def VO(p:Nat)(i:In):Bool :=
 (decide (i.op=1)||decide (i.op=2)||decide (i.op=3)||decide (i.op=4)||decide (i.op=5)||decide (i.op=6)||decide (i.op=7)||decide (i.op=8)||decide (i.op=9)||decide (i.op=10)||decide (i.op=11)||decide (i.op=12)||decide (i.op=13)||decide (16≤i.op)) &&
 (UQ i.d&&UQ i.s&&UQ i.t&&UQ i.u)&&(decide (0≤i.k)&&decide (i.k<4294967296))&&(decide (i.op≠5∧i.op≠6)||decide (i.k<32))&&(decide (i.op≠22)&&decide (i.op≠23)&&decide (i.op≤23))&&(decide (i.op≠12)||(decide (0≤i.k)&&decide (i.k<5)))&&AD i p
def VP(pg:Pg):Bool :=
 decide (0<pg.l.length)&&decide (pg.l.length≤64)&&decide (0≤pg.lock)&&decide (pg.lock<pg.l.length)&&decide (0≤pg.unlock)&&decide (pg.unlock<pg.l.length)&&pg.l.all (VO pg.l.length)
theorem LL{v:Int}(h:UQ v=true):0≤v∧v<8:=by simpa [UQ]using h
theorem JU{p:Nat}{i:In}(h:VO p i=true):GQ i∧(i.op≠22∧i.op≠23∧i.op≤23)∧(i.op=12→0≤i.k∧i.k<5)∧AD i p=true∧i.wk:=by
 unfold VO at h;simp only[Bool.and_eq_true,Bool.or_eq_true,decide_eq_true_eq]at h;obtain⟨⟨⟨⟨⟨⟨h1,⟨⟨h2,h3⟩,h4⟩,h5⟩,h6,h7⟩,hsh⟩,⟨h8,h9⟩,h10⟩,h11⟩,h12⟩:=h;refine⟨⟨by omega,LL h2,LL h3,LL h4,LL h5,⟨h6,h7⟩,fun e=>by omega⟩,⟨h8,h9,h10⟩,fun e=>?_,h12,h6,by omega⟩;rcases h11 with h11 |h11
 ·exact absurd e h11
 ·exact h11
theorem VF{pg:Pg}(h:VP pg=true):SY pg∧(∀ i∈pg.l,GQ i)∧(∀ i∈pg.l,i.op≠22∧i.op≠23∧i.op≤23)∧Kq pg.l:=by
 unfold VP at h;simp only[Bool.and_eq_true,decide_eq_true_eq]at h;obtain⟨⟨⟨⟨⟨⟨h1,h2⟩,h3⟩,h4⟩,h5⟩,h6⟩,h7⟩:=h;have hi:∀ i∈pg.l,VO pg.l.length i=true:=fun i hi=>List.all_eq_true.1 h7 i hi
 exact⟨⟨h1,h2,h3,h4,h5,h6,fun i hm=>(JU (hi i hm)).2.2.2.2,fun i hm=>(JU (hi i hm)).2.2.2.1⟩,fun i hm=>(JU (hi i hm)).1,fun i hm=>(JU (hi i hm)).2.1,fun i hm=>(JU (hi i hm)).2.2.1⟩
theorem VG{pg:Pg}{ss is rs:List Nat}{n:Nat}(h:VP pg=true)(h8:ss.length≤8)(hle:∀ s∈ss,s≤4096)(E6:ss.sum≤8192)(h1:1≤n)(h2:n≤64)(Nh:ss.sum=is.length)(Lb:0<is.length)(Nn:rs.length=n)(Qm:∀ v∈is,v<4294967296)(QZ:∀ v∈rs,v<4294967296):Mm pg ss is rs n:=by
 obtain⟨a,b,c,d⟩:=VF h;exact⟨h8,hle,E6,h1,h2,Nh,Lb,Nn,Qm,QZ,a,b,c,d⟩
theorem T8(f:Int→Value)(l:List Nat):(l.map fun v:Nat=>(v:Int)).map f=l.map fun v:Nat=>f v:=by rw[List.map_map];rfl
theorem HRow.nat{W:World}{v:Value}{t:TypeId}{f:Int→Value}{l:List Nat}(h:HRow W v t ((l.map fun v:Nat=>(v:Int)).map f)):Bx W v l.length (l.map fun v:Nat=>f v):=by
 have:=h.rdn;rw[List.length_map,T8]at this;exact this
def JV(l:List Nat):List Int:=l.map fun v:Nat=>(v:Int)
def VH(w:World)(pg:Pg)(ss is rs:List Nat)(e:Ending)(W:World):Prop :=
 ∃ (A B C D:Option Addr) (c k1 k2 k3:Nat),e=.returned (.tuple #[.agg #[.slice A pg.l.length c,.int .i64 pg.lock,.int .i64 pg.unlock,.slice B ss.length k1,.slice C is.length k2,.int .i64 0,.slice D rs.length k3],.int .i64 0]) ∧
  FF W (.slice A pg.l.length c) (.slice B ss.length k1) (.slice C is.length k2) (.slice D rs.length k3) pg ss is rs∧Below w.heap.size w W
theorem SpecHas.nat{w W:World}{T:List UInt8}{pg:Pg}{ss is rs:List Int}{ssN isN rsN:List Nat}{e:Ending}(hpg:(BW T).1=pg)(e1:ss=JV ssN)(e2:is=JV isN)(e3:rs=JV rsN)(h:SpecHas w T ss is rs 0 e W):VH w pg ssN isN rsN e W:=by
 subst e1 e2 e3 hpg;obtain⟨va,vs,vi,vr,rfl,h0,h1,h2,h3,hb⟩:=h;have g0:=Cy.rd h0;have g1:=HRow.nat h1;have g2:=HRow.nat h2;have g3:=HRow.nat h3;obtain⟨A,c,rfl⟩:=g0.slice;obtain⟨B,k1,rfl⟩:=g1.slice;obtain⟨C,k2,rfl⟩:=g2.slice;obtain⟨D,k3,rfl⟩:=g3.slice;exact⟨A,B,C,D,c,k1,k2,k3,rfl,⟨g0,g1,g2,g3⟩,hb⟩
def OM(w:World)(e:Ending)(W:World):Prop :=
 ∃ (A B C D:Option Addr) (m c n1 n2 n3 k1 k2 k3:Nat) (l u:Int),e=.returned (.tuple #[.agg #[.slice A m c,.int .i64 l,.int .i64 u,.slice B n1 k1,.slice C n2 k2,.int .i64 0,.slice D n3 k3],.bool true])∧Below w.heap.size w W
theorem Iy.some{w W:World}{T:List UInt8}{ss is rs:List Int}{e:Ending}(h:Iy w T ss is rs 0 e W):OM w e W:=by
 obtain⟨va,vs,vi,vr,rfl,h0,h1,h2,h3,hb⟩:=h;obtain⟨A,c,rfl⟩:=(BA.rd h0).slice;obtain⟨B,k1,rfl⟩:=h1.rdn.slice;obtain⟨C,k2,rfl⟩:=h2.rdn.slice;obtain⟨D,k3,rfl⟩:=h3.rdn.slice;exact⟨A,B,C,D,_,c,_,_,_,k1,k2,k3,_,_,rfl,hb⟩
theorem FF.ref{W W1:World}{v vl vs vi vr:Value}{pg:Pg}{ss is rs:List Nat}(h:FF W vl vs vi vr pg ss is rs)(hb:Below W.heap.size W W1)(hr:BA W1 W.heap.size v pg.l):FF W1 v vs vi vr pg ss is rs:=⟨BA.rd hr,h.s.keep hb,h.i.keep hb,h.r.keep hb⟩
theorem wf_u8{n:Int}(h:(Lit.int .u8 n).wf=true):0≤n∧n<256:=by
 simp only[Lit.wf,Bool.and_eq_true,decide_eq_true_eq]at h;have h1:IntKind.u8.min=0:=by decide
 have h2:IntKind.u8.max=255:=by decide
 omega
theorem wf_u32{n:Int}(h:(Lit.int .u32 n).wf=true):0≤n∧n<4294967296:=by
 simp only[Lit.wf,Bool.and_eq_true,decide_eq_true_eq]at h;have h1:IntKind.u32.min=0:=by decide
 have h2:IntKind.u32.max=4294967295:=by decide
 omega
end
end Go.Proofs.YtjjpiefgdggghaaGreatDoor

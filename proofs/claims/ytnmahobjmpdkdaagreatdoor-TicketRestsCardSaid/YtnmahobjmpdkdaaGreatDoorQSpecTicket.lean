/- ticket.Text: the lock's program; it assembles. Written by gen_spec.py. ticket.Spec: the lock's spec. ticket.Spec refuses; ropelinelaw14.awake. -/
import Derived.Test.YtnmahobjmpdkdaaGreatDoorQ02
import Derived.Test.YtnmahobjmpdkdaaGreatDoorQ25
set_option linter.unusedVariables false
set_option linter.unusedSimpArgs false
set_option maxRecDepth 100000
set_option maxHeartbeats 40000000
namespace Go.Proofs.YtnmahobjmpdkdaaGreatDoor
section
open Go.RowKit Go.Proofs.YtnmahobjmpdkdaaGreatDoorW.PrintWords
def AZ:List UInt8:=[108,111,99,107,58,10,102,97,100,100,32,114,49,32,48,32,114,48,32,49,10,109,97,114,107,32,49,10,97,119,97,105,116,32,114,50,32,49,32,114,48,32,101,113,32,114,49,10,109,97,114,107,32,50,10,100,111,110,101,32,49,10,117,110,108,111,99,107,58,10,97,100,100,107,32,114,49,32,114,49,32,49,10,115,116,111,114,101,32,49,32,114,48,32,114,49,10,109,97,114,107,32,52,10,100,111,110,101,32,50,10]
theorem HX:AZ.length≤90000:=by decide +kernel
theorem Pj:4<(BE AZ).1.l.length:=by decide +kernel
theorem FV(W:World):Calls Tryz.prog 41 #[] W fun e W'=>e=.returned (.string ⟨AZ.toArray⟩)∧W'=W:=by
 go_enter Tryz.func41,Tryz.ntmps41;go_wp2;go_ret;exact⟨rfl,rfl⟩
theorem Mb(k:Nat)(st:Int)(h1:1≤k)(h2:k≤64)(w:World)(he:Env w):Calls Tryz.prog 20 #[.int .i64 (k:Int),.int .u32 st] w (MS w AZ k):=by
 have hd1:decide ((k:Int)<1)=false:=decide_eq_false (by omega);have hd2:decide ((64:Int)<(k:Int))=false:=decide_eq_false (by omega);obtain⟨cs,hcs,_,hmk⟩:=HG k (by omega);have CT:=Az (fun W=>FV W);have CA:=Az (fun(W:World) (heW:Env W)=>EL AZ W heW HX);go_enter Tryz.func20,Tryz.ntmps20;have hN:=Bv w (.cells #[.slice none 0 0,.int .i64 0,.int .i64 0,.slice none 0 0,.slice none 0 0,.int .i64 0,.slice none 0 0] 38);have hb0:=Bw w (.cells #[.slice none 0 0,.int .i64 0,.int .i64 0,.slice none 0 0,.slice none 0 0,.int .i64 0,.slice none 0 0] 38);obtain⟨w0,hw0⟩:∃ y,w.alloc (.cells #[.slice none 0 0,.int .i64 0,.int .i64 0,.slice none 0 0,.slice none 0 0,.int .i64 0,.slice none 0 0] 38)=y:=⟨_,rfl⟩
 rw[hw0]at hN hb0;go_upto_region 3 with fail
 try rw[hw0]
 replace hN:=Az hN;replace hb0:=Az hb0;clear hw0;go_cut [6] (fun v wx=>∃ (p:Nat) (B C D:Option Addr) (n1 n2 k1 k2 k3:Nat) (each:Int),v=.pointer (some ⟨p,0,none⟩)∧Af (SpB w wx w.heap.size p B C D n1 n2 k k1 k2 k3 each))
 case first =>
  go_wp2;go_meet
  have hlt:=Bl hN.out;refine⟨_,some ⟨w0.heap.size,0,none⟩,some ⟨w0.heap.size+1,0,none⟩,some ⟨w0.heap.size+1+1,0,none⟩,2,2,2,2,k,0,rfl,⟨⟨?_,?_,?_,?_⟩⟩⟩
  ·exact(((hb0.out.trans ((Bw w0 _).mono hb0.out.size)).alloc (by simp;omega) _).alloc (by simp;omega) _).alloc (by simp;omega) _
  ·exact AJ (AJ (AJ (AJ hN.out _) _) _) _
  ·exact Dk (by simp) _
  ·omega
 case rest =>
  obtain⟨p,B,C,D,n1,n2,k1,k2,k3,each,rfl,hB⟩:=hcut;go_wp2_with fail
  refine(CT.out _).mono ?_;rintro e w1 ⟨rfl,rfl⟩;go_wp2_with fail
  refine(CA.out _ (he.below hB.out.b)).mono ?_;rintro e w2 ⟨va,rfl,hr,hb⟩;have hB2:=hB.out.keep hb;have hr2:=hr.mono hB.out.b.size;obtain⟨A,m,c,rfl⟩:=AK hr;have hfin:=Az (hB2.fin (BE AZ).1.lock (BE AZ).1.unlock hr2);have c0:w2.cell? ⟨p,0,none⟩=some (.slice none 0 0):=(Bc hB2.q 0).trans rfl;have c1:w2.cell? ⟨p,1,none⟩=some (.int .i64 0):=(Bc hB2.q 1).trans rfl;have c2:w2.cell? ⟨p,2,none⟩=some (.int .i64 0):=(Bc hB2.q 2).trans rfl;have c3:w2.cell? ⟨p,3,none⟩=some (.slice B n1 k1):=(Bc hB2.q 3).trans rfl;have c4:w2.cell? ⟨p,4,none⟩=some (.slice C n2 k2):=(Bc hB2.q 4).trans rfl;have c5:w2.cell? ⟨p,5,none⟩=some (.int .i64 each):=(Bc hB2.q 5).trans rfl;have c6:w2.cell? ⟨p,6,none⟩=some (.slice D k k3):=(Bc hB2.q 6).trans rfl;have f0:=Bf hB2.q 0;have f1:=Bf hB2.q 1;have f2:=Bf hB2.q 2;have d0:w2.cell? ⟨w.heap.size,0,none⟩=some (.slice none 0 0):=(Bc hB2.c 0).trans rfl;have d1:w2.cell? ⟨w.heap.size,1,none⟩=some (.int .i64 0):=(Bc hB2.c 1).trans rfl;have d2:w2.cell? ⟨w.heap.size,2,none⟩=some (.int .i64 0):=(Bc hB2.c 2).trans rfl;have d3:w2.cell? ⟨w.heap.size,3,none⟩=some (.slice none 0 0):=(Bc hB2.c 3).trans rfl;have d4:w2.cell? ⟨w.heap.size,4,none⟩=some (.slice none 0 0):=(Bc hB2.c 4).trans rfl;have d5:w2.cell? ⟨w.heap.size,5,none⟩=some (.int .i64 0):=(Bc hB2.c 5).trans rfl;have d6:w2.cell? ⟨w.heap.size,6,none⟩=some (.slice none 0 0):=(Bc hB2.c 6).trans rfl;have e0:=Bf hB2.c 0;have e1:=Bf hB2.c 1;have e2:=Bf hB2.c 2;have e3:=Bf hB2.c 3;have e4:=Bf hB2.c 4;have e5:=Bf hB2.c 5;have e6:=Bf hB2.c 6;have z0:w.heap.size<w2.heap.size:=Bl hB2.c;have zp:p<w2.heap.size:=Bl hB2.q;have ne0:¬w.heap.size=p:=Nat.ne_of_lt hB2.ne;have ne1:¬p=w.heap.size:=Nat.ne_of_gt hB2.ne;clear hB hB2 hr hr2 hb CT CA;go_wp2;obtain⟨g1,g2,g3⟩:=hfin.out _ rfl;refine bodyPost_ret (AL rfl _ _ w.heap.size 38 #[.slice A m c,.int .i64 (BE AZ).1.lock,.int .i64 (BE AZ).1.unlock,.slice B n1 k1,.slice C n2 k2,.int .i64 each,.slice D k k3] (0,0) _ rfl g1 Tryz.underlying38 rfl (by kernel_rfl)) rfl ⟨_,B,C,D,n1,n2,k1,k2,k3,each,rfl,g2,g3⟩
theorem LG(n st:Int)(h:n<1∨64<n)(w:World):Calls Tryz.prog 20 #[.int .i64 n,.int .u32 st] w (GH w):=by
 have hN:=Bv w (.cells #[.slice none 0 0,.int .i64 0,.int .i64 0,.slice none 0 0,.slice none 0 0,.int .i64 0,.slice none 0 0] 38);have hb0:=Bw w (.cells #[.slice none 0 0,.int .i64 0,.int .i64 0,.slice none 0 0,.slice none 0 0,.int .i64 0,.slice none 0 0] 38);have hfin:=Iq hb0 hN;obtain⟨w0,hw0⟩:∃ y,w.alloc (.cells #[.slice none 0 0,.int .i64 0,.int .i64 0,.slice none 0 0,.slice none 0 0,.int .i64 0,.slice none 0 0] 38)=y:=⟨_,rfl⟩
 rw[hw0]at hfin hN;have d0:w0.cell? ⟨w.heap.size,0,none⟩=some (.slice none 0 0):=(Bc hN 0).trans rfl;have d1:w0.cell? ⟨w.heap.size,1,none⟩=some (.int .i64 0):=(Bc hN 1).trans rfl;have d2:w0.cell? ⟨w.heap.size,2,none⟩=some (.int .i64 0):=(Bc hN 2).trans rfl;have d3:w0.cell? ⟨w.heap.size,3,none⟩=some (.slice none 0 0):=(Bc hN 3).trans rfl;have d4:w0.cell? ⟨w.heap.size,4,none⟩=some (.slice none 0 0):=(Bc hN 4).trans rfl;have d5:w0.cell? ⟨w.heap.size,5,none⟩=some (.int .i64 0):=(Bc hN 5).trans rfl;have d6:w0.cell? ⟨w.heap.size,6,none⟩=some (.slice none 0 0):=(Bc hN 6).trans rfl;have e0:=Bf hN 0;have e1:=Bf hN 1;have e2:=Bf hN 2;have e3:=Bf hN 3;have e4:=Bf hN 4;have e5:=Bf hN 5;have e6:=Bf hN 6;have z0:w.heap.size<w0.heap.size:=Bl hN;replace hfin:=Az hfin;clear hN hb0;go_enter Tryz.func20,Tryz.ntmps20;go_upto_region 1 with fail
 try rw[hw0]
 clear hw0;go_cut [12] (fun v wx=>v=.bool true∧wx=w0)
 case first =>
  rcases h with h |h
  ·have hd1:decide (n<1)=true:=decide_eq_true h;go_wp2;go_meet
   exact⟨rfl,rfl⟩
  ·have hd1:decide (n<1)=false:=decide_eq_false (by omega);have hd2:decide (64<n)=true:=decide_eq_true h;go_wp2;go_meet
   exact⟨rfl,rfl⟩
 case rest =>
  obtain⟨rfl,rfl⟩:=hcut;go_wp2;obtain⟨g1,g2⟩:=hfin.out _ rfl;refine bodyPost_ret (AL rfl _ _ w.heap.size 38 #[.slice none 0 0,.int .i64 0,.int .i64 0,.slice none 0 0,.slice none 0 0,.int .i64 0,.slice none 0 0] (0,0) _ rfl g1 Tryz.underlying38 rfl (by kernel_rfl)) rfl ⟨rfl,g2⟩
theorem FE(w:World)(he:Env w):Calls Tryz.prog 19 #[] w fun e w'=>e=.returned (.bool true)∧Below w.heap.size w w':=by
 have C:=Mb 2 5 (by decide) (by decide) w he;unfold MS at C;have hm:=Pj;generalize BE AZ=fin at C hm;obtain⟨⟨fl,fa,fb⟩,f1,f2⟩:=fin;dsimp only at C hm;replace C:=Az C;replace hm:=Az hm;go_enter Tryz.func19,Tryz.ntmps19;go_wp2_with fail
 refine C.out.mono ?_;rintro e w1 ⟨va,B,C',D,n1,n2,k1,k2,k3,each,rfl,hr,hb⟩;obtain⟨A,c,rfl⟩:=(C8.rd hr).slice;have hd:decide ((4:Int)<(fl.length:Int))=true:=decide_eq_true (by have:=hm.out;omega);have hb2:=Az (hb.alloc hb.size (.cells #[.slice A fl.length c,.int .i64 fa,.int .i64 fb,.slice B n1 k1,.slice C' n2 k2,.int .i64 each,.slice D 2 k3] 38));generalize fl.length=n at hd hb2;clear hr hb C hm;go_wp2;go_ret;exact⟨rfl,hb2.out⟩
end
end Go.Proofs.YtnmahobjmpdkdaaGreatDoor

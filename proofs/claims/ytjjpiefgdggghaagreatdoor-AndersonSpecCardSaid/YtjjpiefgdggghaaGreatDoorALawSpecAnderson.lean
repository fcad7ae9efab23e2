/- AndersonSpec: the law: true, whatever the lock; the memory that was there is as it was. Written by gen_lawspecan.py. -/
import Derived.Test.YtjjpiefgdggghaaGreatDoorA03
import Derived.Test.YtjjpiefgdggghaaGreatDoorA13
import Derived.Test.YtjjpiefgdggghaaGreatDoorASameW
import Derived.Test.YtjjpiefgdggghaaGreatDoorARefHasA
import Derived.Test.YtjjpiefgdggghaaGreatDoorA42
import Derived.Test.YtjjpiefgdggghaaGreatDoorA40
import Derived.Deep.RegionHeld3
set_option linter.unusedVariables false
set_option linter.unusedSimpArgs false
set_option maxRecDepth 100000
set_option maxHeartbeats 40000000
namespace Go.Proofs.YtjjpiefgdggghaaGreatDoor
section
open Go.RowKit Go.Proofs.YtjjpiefgdggghaaGreatDoorW.PrintWords
theorem UF{W5:World}{p q:Nat}{t t':TypeId}{va sa ia ra vb sb ib rb:Value}{l u ea eb:Int}
  (h1:W5.heap[p]?=some (.cells #[va,.int .i64 l,.int .i64 u,sa,ia,.int .i64 ea,ra] t (0,0)))(h2:W5.heap[q]?=some (.cells #[vb,.int .i64 l,.int .i64 u,sb,ib,.int .i64 eb,rb] t' (0,0))):VN W5 p q va sa ia ra vb sb ib rb l u ea eb W5 :=
 ⟨⟨Below.refl _ _⟩,⟨(Bc h1 0).trans rfl,(Bc h1 1).trans rfl,(Bc h1 2).trans rfl,(Bc h1 3).trans rfl,(Bc h1 4).trans rfl,(Bc h1 5).trans rfl,(Bc h1 6).trans rfl⟩,
  (Bc h2 0).trans rfl,(Bc h2 1).trans rfl,(Bc h2 2).trans rfl,(Bc h2 3).trans rfl,(Bc h2 4).trans rfl,(Bc h2 5).trans rfl,(Bc h2 6).trans rfl⟩
theorem Oh(k M st:Nat)(hM:FB M)(hst:st<4294967296)(n1:1≤k)(n2:k≤M+1)(w:World):Calls Tryz.prog 18 #[.int .i64 (k:Int),.int .i64 ((M:Int)+1),.int .u32 (st:Int)] w (OG w (Dn M) [1,(M:Int)+1] (Sm M st) (List.replicate k (0:Int)) 0) :=
 (KO k M st hM hst n1 n2 w).mono fun e W h=>h.WW (Tv hM)
theorem GC(k M st:Nat)(hM:FB M)(hst:st<4294967296)(n1:1≤k)(n2:k≤M+1)(w:World)(he:Env w):Calls Tryz.prog 4 #[.int .i64 (k:Int),.int .i64 ((M:Int)+1),.int .u32 (st:Int)] w fun e w'=>e=.returned (.bool true)∧Below w.heap.size w w':=by
 have CA:=Az (DN k M st hM hst n1 n2 w he);have CB:=Az (fun(W:World)=>Oh k M st hM hst n1 n2 W);have AW:=Az (fun(W:World) (heW:Env W)=>Dw W heW);have hfew:=Az (Uv hM);have hTT:((Dn M)==(Dn M))=true:=beq_self_eq_true _;go_enter Tryz.func4,Tryz.ntmps4;go_wp2_with fail
 refine CA.out.mono ?_;generalize hss:([1,(M:Int)+1]:List Int)=ss at *;generalize his:(Sm M st:List Int)=is at *;generalize hrs:(List.replicate k (0:Int):List Int)=rs at *;rintro e w1 ⟨va,vs,vi,vr,rfl,hr,h1,h2,h3,hb⟩
 ·have hz:ss.length≤1000000∧is.length≤1000000∧rs.length≤1000000:=by
   subst hss his hrs;have hm:=CF hM;exact⟨by simp,by rw[SO];omega,by simp;omega⟩
  clear hss his hrs CA;obtain⟨A,c,rfl⟩:=(Cy.rd hr).slice;obtain⟨B,k1,rfl⟩:=h1.rdn.slice;obtain⟨C,k2,rfl⟩:=h2.rdn.slice;obtain⟨D,k3,rfl⟩:=h3.rdn.slice;have hb2:=Bw w1 (.cells #[.slice A (BW (Dn M)).1.l.length c,.int .i64 (BW (Dn M)).1.lock,.int .i64 (BW (Dn M)).1.unlock,.slice B ss.length k1,.slice C is.length k2,.int .i64 (0),.slice D rs.length k3] 37);have bA:=Bv w1 (.cells #[.slice A (BW (Dn M)).1.l.length c,.int .i64 (BW (Dn M)).1.lock,.int .i64 (BW (Dn M)).1.unlock,.slice B ss.length k1,.slice C is.length k2,.int .i64 (0),.slice D rs.length k3] 37);have hB2:=hb.trans (hb2.mono hb.size);have rA:=(Cy.rd hr).keep hb2;have r1:=h1.rdn.keep hb2;have r2:=h2.rdn.keep hb2;have r3:=h3.rdn.keep hb2;obtain⟨p,hp⟩:∃ p,w1.heap.size=p:=⟨_,rfl⟩
  obtain⟨w2,hw2⟩:∃ y,w1.alloc (.cells #[.slice A (BW (Dn M)).1.l.length c,.int .i64 (BW (Dn M)).1.lock,.int .i64 (BW (Dn M)).1.unlock,.slice B ss.length k1,.slice C is.length k2,.int .i64 (0),.slice D rs.length k3] 37)=y:=⟨_,rfl⟩
  rw[hw2]at rA r1 r2 r3 bA hB2;rw[hp]at bA;replace rA:=Az rA;replace r1:=Az r1;replace r2:=Az r2;replace r3:=Az r3;replace bA:=Az bA;replace hB2:=Az hB2;clear hr h1 h2 h3 hb hb2;go_upto_region 2 with fail
  try rw[hw2]
  try rw[hp]
  clear hw2 hp;go_wp2_with fail
  refine(CB.out _).mono ?_;rintro e w3 ⟨vb,ws,wi,wr,rfl,hr,h1,h2,h3,hb⟩
  ·obtain⟨A',c',rfl⟩:=(BA.rd hr).slice;obtain⟨B',k1',rfl⟩:=h1.rdn.slice;obtain⟨C',k2',rfl⟩:=h2.rdn.slice;obtain⟨D',k3',rfl⟩:=h3.rdn.slice;have hb4:=Bw w3 (.cells #[.slice A' (BW (Dn M)).1.l.length c',.int .i64 (BW (Dn M)).1.lock,.int .i64 (BW (Dn M)).1.unlock,.slice B' ss.length k1',.slice C' is.length k2',.int .i64 (0),.slice D' rs.length k3'] 29);have bB:=Bv w3 (.cells #[.slice A' (BW (Dn M)).1.l.length c',.int .i64 (BW (Dn M)).1.lock,.int .i64 (BW (Dn M)).1.unlock,.slice B' ss.length k1',.slice C' is.length k2',.int .i64 (0),.slice D' rs.length k3'] 29);have hbb:=hb.trans (hb4.mono hb.size);have hB4:=hB2.out.trans (hbb.mono hB2.out.size);have bA4:=Bk hbb bA.out;have qA:=rA.out.keep hbb;have q1:=r1.out.keep hbb;have q2:=r2.out.keep hbb;have q3:=r3.out.keep hbb;have sA:=(BA.rd hr).keep hb4;have s1:=h1.rdn.keep hb4;have s2:=h2.rdn.keep hb4;have s3:=h3.rdn.keep hb4;obtain⟨q,hq⟩:∃ q,w3.heap.size=q:=⟨_,rfl⟩
   obtain⟨w4,hw4⟩:∃ y,w3.alloc (.cells #[.slice A' (BW (Dn M)).1.l.length c',.int .i64 (BW (Dn M)).1.lock,.int .i64 (BW (Dn M)).1.unlock,.slice B' ss.length k1',.slice C' is.length k2',.int .i64 (0),.slice D' rs.length k3'] 29)=y:=⟨_,rfl⟩
   rw[hw4]at bB hB4 bA4 qA q1 q2 q3 sA s1 s2 s3;rw[hq]at bB;have hall:=Az (And.intro qA (And.intro q1 (And.intro q2 (And.intro q3 (And.intro sA (And.intro s1 (And.intro s2 s3)))))));replace hB4:=Az hB4;replace bB:=Az (And.intro bA4 bB);clear hr h1 h2 h3 hb hb4 hbb bA4 qA q1 q2 q3 sA s1 s2 s3 rA r1 r2 r3 bA hB2 CB;go_upto_region 3 with fail
   try rw[hw4]
   try rw[hq]
   clear hw4 hq;go_wp2_with fail
   generalize (BW (Dn M)).1.l=xs at *;generalize (BW (Dn M)).1.lock=lk at *;generalize (BW (Dn M)).1.unlock=uk at *;generalize (0:Int)=each at *;have hS:=Gv (Bd (Below.refl _ w4)) (UF bB.out.1 bB.out.2);have RA:=Az (fun(W:World) (hb:Below w4.heap.size w4 W)=>DS (.slice A xs.length c) lk uk each B C D ss.length is.length rs.length k1 k2 k3 xs W (hall.out.1.keep hb) hfew.out);have SS:=Az (fun(W:World) (x:Value) (h1:Bx W x xs.length (AQ xs)) (hb:Below w4.heap.size w4 W)=>Gm x (.slice A' xs.length c') (.slice B ss.length k1) (.slice B' ss.length k1') (.slice C is.length k2) (.slice C' is.length k2') (.slice D rs.length k3) (.slice D' rs.length k3') lk uk each xs ss is rs W h1 (hall.out.2.2.2.2.1.keep hb)
    (hall.out.2.1.keep hb) (hall.out.2.2.2.2.2.1.keep hb) (hall.out.2.2.1.keep hb) (hall.out.2.2.2.2.2.2.1.keep hb) (hall.out.2.2.2.1.keep hb) (hall.out.2.2.2.2.2.2.2.keep hb) (by have:=hfew.out;omega) hz.1 hz.2.1 hz.2.2)
   have CT:=Az (fun(W:World) (heW:Env W)=>E1 hM W heW);have CR:=Az (fun W=>FE hM W);refine Av [] (S:=VN w4 p q (.slice A xs.length c) (.slice B ss.length k1) (.slice C is.length k2) (.slice D rs.length k3) (.slice A' xs.length c') (.slice B' ss.length k1') (.slice C' is.length k2') (.slice D' rs.length k3') lk uk each each) (by kernel_rfl) hS (fun hS0=>?_);clear hS bB;obtain⟨w6,hw6⟩:∃ y,w4.drew=y:=⟨_,rfl⟩
   rw[hw6]at hS0 ⊢;clear hw6;refine tY 0 (fun _=>by assumption) ?_;refine tY 1 (fun _=>by assumption) ?_;refine tY 2 (fun _=>by assumption) ?_;refine BZ (i:=3) (v:=?_) (Au rfl) (by kernel_rfl) (fun _ _ _ h=>h) (.inl ⟨by rfl,?_⟩) (by assumption) ?_;rotate_left
   ·intro w hSw;obtain⟨_,⟨k0,k1,k2,k3,k4,k5,k6⟩,j0,j1,j2,j3,j4,j5,j6⟩:=hSw;go_simp;try with_reducible rfl
   try simp only[Act.put,Sa,Sb,Sc]
   refine BZ (i:=5) (v:=?_) (Au rfl) (by kernel_rfl) (fun _ _ _ h=>h) (.inl ⟨by rfl,?_⟩) (by assumption) ?_;rotate_left
   ·intro w hSw;obtain⟨_,⟨k0,k1,k2,k3,k4,k5,k6⟩,j0,j1,j2,j3,j4,j5,j6⟩:=hSw;go_simp;try with_reducible rfl
   try simp only[Act.put,Sa,Sb,Sc]
   refine Ab (rs:=[4]) (by kernel_rfl) (by simp) ?_;refine Aa.cons (Au rfl) (fun K hK=>?_) Aa.nil;go_simp
   go_at_call 15
   refine(RA.out _ hS0.1.out).mono ?_;rintro e w7 ⟨va1,rfl,hr1,hb1⟩;obtain⟨X1,y1,z1,rfl⟩:=AV hr1;have hS1:=Gv hb1 hS0;replace hr1:=Az (BA.rd hr1);clear hS0 hb1 RA;go_wp2_with fail
   refine hK.out _ _ (fun _=>hS1) (fun _=>?_);try simp only[Act.put,Sa,Sb,Sc]
   refine Ab (rs:=[6]) (by kernel_rfl) (by simp) ?_;refine Aa.cons (Au rfl) (fun K hK=>?_) Aa.nil;go_simp
   go_at_call 19
   refine(SS.out _ _ hr1.out hS1.1.out).mono ?_;rintro e w9 ⟨rfl,hb3⟩;have hS3:=Gv hb3 hS1;clear hS1 hb3 SS hr1;go_wp2_with fail
   refine hK.out _ _ (fun _=>hS3) (fun _=>?_);try simp only[Act.put,Sa,Sb,Sc]
   refine tY 7 (fun _=>by assumption) ?_;refine tY 8 (fun _=>by assumption) ?_;refine tY 9 (fun _=>by assumption) ?_;refine tY 11 (fun _=>by assumption) ?_;refine Ab (rs:=[10]) (by kernel_rfl) (by simp) ?_;refine Aa.cons (Au rfl) (fun K hK=>?_) Aa.nil;go_simp
   go_at_call 21
   refine(CT.out _ (he.below (hB4.out.trans (hS3.1.out.mono hB4.out.size)))).mono ?_;rintro e w10 ⟨rfl,hb10⟩;have hS3a:=Gv hb10 hS3;clear hb10 hS3;go_wp2_with fail
   refine hK.out _ _ (fun _=>hS3a) (fun _=>?_);try simp only[Act.put,Sa,Sb,Sc]
   refine Ab (rs:=[12]) (by kernel_rfl) (by simp) ?_;refine Aa.cons (Au rfl) (fun K hK=>?_) Aa.nil;go_simp
   go_at_call 22
   refine(CR.out _).mono ?_;rintro e w10 ⟨rfl,hb10⟩;have hS3b:=Gv hb10 hS3a;clear hb10 hS3a;go_wp2_with fail
   refine hK.out _ _ (fun _=>hS3b) (fun _=>?_);try simp only[Act.put,Sa,Sb,Sc]
   refine tY 13 (fun _=>by assumption) ?_;refine tY 14 (fun _=>by assumption) ?_;refine tY 15 (fun _=>by assumption) ?_;refine Ab (rs:=[16]) (by kernel_rfl) (by simp) ?_;refine Aa.cons (Au rfl) (fun K hK=>?_) Aa.nil;go_simp
   go_at_call 20
   refine(AW.out _ (he.below (hB4.out.trans (hS3b.1.out.mono hB4.out.size)))).mono ?_;rintro e w12 ⟨rfl,hb4⟩;have hS4:=Gv hb4 hS3b;clear hS3b hb4 AW;go_wp2_with fail
   refine hK.out _ _ (fun _=>hS4) (fun _=>?_);try simp only[Act.put,Sa,Sb,Sc]
   refine tY 17 (fun _=>by assumption) ?_;refine tY 18 (fun _=>by assumption) ?_;refine Ax (by kernel_rfl) ?_ _;have hfin:=Az (hB4.out.trans (hS4.1.out.mono hB4.out.size));clear hS4 hB4;go_wp2;go_ret;exact⟨rfl,hfin.out⟩
theorem GD(n sl st:Int)(hbad:¬Lt n sl)(w:World)(he:Env w):Calls Tryz.prog 4 #[.int .i64 n,.int .i64 sl,.int .u32 st] w fun e w'=>e=.returned (.bool true)∧Below w.heap.size w w':=by
 have CA:=Az (FD n sl st hbad w);have CB:=Az (fun(W:World)=>MO n sl st hbad W);have AW:=Az (fun(W:World) (heW:Env W)=>Dw W heW);clear hbad;go_enter Tryz.func4,Tryz.ntmps4;go_wp2_with fail
 refine CA.out.mono ?_;rintro e w1 ⟨rfl,hb⟩;have hb2:=Bw w1 (.cells #[.slice none 0 0,.int .i64 0,.int .i64 0,.slice none 0 0,.slice none 0 0,.int .i64 0,.slice none 0 0] 37);have bA:=Bv w1 (.cells #[.slice none 0 0,.int .i64 0,.int .i64 0,.slice none 0 0,.slice none 0 0,.int .i64 0,.slice none 0 0] 37);have hB2:=hb.trans (hb2.mono hb.size);replace bA:=Az bA;replace hB2:=Az hB2;clear hb hb2 CA;go_upto_region 2 with fail
 obtain⟨p,hp⟩:∃ p,w1.heap.size=p:=⟨_,rfl⟩
 obtain⟨w2,hw2⟩:∃ y,w1.alloc (.cells #[.slice none 0 0,.int .i64 0,.int .i64 0,.slice none 0 0,.slice none 0 0,.int .i64 0,.slice none 0 0] 37)=y:=⟨_,rfl⟩
 rw[hw2]at bA hB2;rw[hp]at bA;try rw[hw2]
 try rw[hp]
 clear hw2 hp;go_wp2_with fail
 refine(CB.out _).mono ?_;rintro e w3 ⟨rfl,hb⟩
 ·have hbb:=hb.trans ((Bw w3 (.cells #[.slice none 0 0,.int .i64 0,.int .i64 0,.slice none 0 0,.slice none 0 0,.int .i64 0,.slice none 0 0] 29)).mono hb.size);have bA4:=Bk hbb bA.out;have hB4:=hB2.out.trans (hbb.mono hB2.out.size);replace hB4:=Az hB4;replace bA4:=Az bA4;clear hb hbb bA hB2 CB;go_upto_region 3 with fail
  obtain⟨w4,hw4⟩:∃ y,w3.alloc (.cells #[.slice none 0 0,.int .i64 0,.int .i64 0,.slice none 0 0,.slice none 0 0,.int .i64 0,.slice none 0 0] 29)=y:=⟨_,rfl⟩
  rw[hw4]at bA4 hB4;try rw[hw4]
  clear hw4;replace bA4:=bA4.out;have a0:w4.cell? ⟨p,0,none⟩=some (.slice none 0 0):=(Bc bA4 0).trans rfl;have a1:w4.cell? ⟨p,1,none⟩=some (.int .i64 0):=(Bc bA4 1).trans rfl;have a2:w4.cell? ⟨p,2,none⟩=some (.int .i64 0):=(Bc bA4 2).trans rfl;have a3:w4.cell? ⟨p,3,none⟩=some (.slice none 0 0):=(Bc bA4 3).trans rfl;have a4:w4.cell? ⟨p,4,none⟩=some (.slice none 0 0):=(Bc bA4 4).trans rfl;have a5:w4.cell? ⟨p,5,none⟩=some (.int .i64 0):=(Bc bA4 5).trans rfl;have a6:w4.cell? ⟨p,6,none⟩=some (.slice none 0 0):=(Bc bA4 6).trans rfl;clear bA4;have RA:=Az (fun(W:World)=>DS (.slice none 0 0) 0 0 0 none none none 0 0 0 0 0 0 [] W (.nil _) (by decide));have SS:=Az (fun(W:World) (x:Value) (h1:Bx W x 0 [])=>Gm x (.slice none 0 0) (.slice none 0 0) (.slice none 0 0) (.slice none 0 0) (.slice none 0 0) (.slice none 0 0) (.slice none 0 0) 0 0 0 [] [] [] [] W h1 (.nil _) (.nil _) (.nil _) (.nil _) (.nil _) (.nil _) (.nil _) (by decide) (by decide) (by decide) (by decide));go_wp2_with fail
  refine(RA.out _).mono ?_;rintro e w7 ⟨va1,rfl,hr1,hb1⟩;obtain⟨X1,y1,z1,rfl⟩:=AV hr1;replace hr1:=Az (BA.rd hr1);have hB7:=Az (hB4.out.trans (hb1.mono hB4.out.size));clear hb1 hB4 RA a0 a1 a2 a3 a4 a5 a6;go_wp2_with fail
  refine(SS.out _ _ hr1.out).mono ?_;rintro e w8 ⟨rfl,hb2⟩;have hB8:=Az (hB7.out.trans (hb2.mono hB7.out.size));clear hb2 hB7 SS hr1;go_wp2_with fail
  refine(AW.out _ (he.below hB8.out)).mono ?_;rintro e w9 ⟨rfl,hb3⟩;have hB9:=Az (hB8.out.trans (hb3.mono hB8.out.size));clear hb3 hB8 AW;go_wp2;go_ret;exact⟨rfl,hB9.out⟩
theorem HE(z0 z1 z2:Int)(wz2:(Lit.int .u32 z2).wf=true)(w:World)(he:Env w):Calls Tryz.prog 4 #[.int .i64 z0,.int .i64 z1,.int .u32 z2] w fun e w'=>e=.returned (.bool true)∧Below w.heap.size w w':=by
 by_cases h:Lt z0 z1
 ·have b2:0≤z2∧z2<4294967296:=by
   simp only[Lit.wf,Bool.and_eq_true,decide_eq_true_eq]at wz2;have h1:IntKind.u32.min=0:=by decide
   have h2:IntKind.u32.max=4294967295:=by decide
   omega
  obtain⟨st,rfl⟩:∃ c:Nat,z2=(c:Int):=⟨z2.toNat,by omega⟩
  obtain⟨k,M,rfl,rfl,hM,h1,h2⟩:=h;exact GC k M st hM (by omega) h1 h2 w he
 ·exact GD z0 z1 z2 h w he
end
end Go.Proofs.YtjjpiefgdggghaaGreatDoor

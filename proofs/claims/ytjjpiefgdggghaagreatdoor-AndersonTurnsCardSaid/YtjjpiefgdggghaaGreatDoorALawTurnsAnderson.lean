/- AndersonTurns: the law: true, whatever the lock; the memory that was there is as it was. Written by gen_lawanderson.py. -/
import Derived.Test.YtjjpiefgdggghaaGreatDoorA03
import Derived.Test.YtjjpiefgdggghaaGreatDoorA42
import Derived.Test.YtjjpiefgdggghaaGreatDoorAServed
import Derived.Test.YtjjpiefgdggghaaGreatDoorALawBaseAnderson
set_option linter.unusedVariables false
set_option linter.unusedSimpArgs false
set_option maxRecDepth 100000
set_option maxHeartbeats 40000000
namespace Go.Proofs.YtjjpiefgdggghaaGreatDoor
section
open Go.RowKit Go.Proofs.YtjjpiefgdggghaaGreatDoorW.PrintWords
theorem HW(n sl:Int)(st:Nat)(hst:st<4294967296)(cal:Nat)(hcal:cal<256)(wi:World)(he:Env wi):Calls Tryz.prog 6 #[.agg #[.int .i64 n,.int .i64 sl,.int .u32 (st:Int)],.int .u8 (cal:Int)] wi fun e w'=>e=.returned (.bool true)∧Below wi.heap.size wi w':=by
 replace he:=Az he;go_enter Tryz.func6,Tryz.ntmps6;go_upto_region 1 with fail
 go_region
 obtain⟨w,hw⟩:∃ y,(wi.alloc (.cells #[.int .i64 n,.int .i64 sl,.int .u32 (st:Int)] 52)).drew=y:=⟨_,rfl⟩
 rw[hw];have hbi:Below wi.heap.size wi w:=by rw[←hw];exact Bd (Bw wi _)
 clear hw;replace he:=he.out.below hbi;replace hbi:=Az hbi;have CB:=Az (Ii n sl st hst w);have CA:=Az (fun(W:World) (heW:Env W)=>Fj n sl st hst W heW);have AW:=Az (fun(W:World) (heW:Env W)=>Dw W heW);replace he:=Az he;go_wp2_with fail
 refine CB.out.mono ?_;rintro e w1 (⟨k,M,rfl,rfl,hM,n1,n2,A',B',C',D',m',c',m1,m2,m3,k1',k2',k3',l',u',rfl,hb⟩ |⟨hbad,rfl,hb⟩);case inr =>
  have hb2:=Az (hb.trans ((Bw w1 (.cells #[.slice none 0 0,.int .i64 0,.int .i64 0,.slice none 0 0,.slice none 0 0,.int .i64 0,.slice none 0 0] 29)).mono hb.size));clear hb CB CA hbad;go_wp2_with fail
  refine(AW.out _ (he.out.below hb2.out)).mono ?_;rintro e w3 ⟨rfl,hb3⟩;replace hb2:=Az (hb2.out.trans (hb3.mono hb2.out.size));clear hb3 AW;go_wp2;go_ret;exact⟨rfl,hbi.out.trans (hb2.out.mono hbi.out.size)⟩
 have hb2:=Az (hb.trans ((Bw w1 (.cells #[.slice A' m' c',.int .i64 l',.int .i64 u',.slice B' m1 k1',.slice C' m2 k2',.int .i64 0,.slice D' m3 k3'] 29)).mono hb.size));clear hb CB;by_cases h8:k≤8;case neg =>
  have n8:(8:Int)<(k:Int):=by omega
  clear CA h8;go_wp2_with fail
  refine(AW.out _ (he.out.below hb2.out)).mono ?_;rintro e w3 ⟨rfl,hb3⟩;replace hb2:=Az (hb2.out.trans (hb3.mono hb2.out.size));clear hb3 AW;go_wp2;go_ret;exact⟨rfl,hbi.out.trans (hb2.out.mono hbi.out.size)⟩
 have n8:¬(8:Int)<(k:Int):=by omega
 obtain⟨cl,hcl⟩:∃ x,cal%13=x:=⟨_,rfl⟩
 have hc12:cl≤12:=by omega
 have hrem:(cal:Int).tmod 13=(cl:Int):=by rw[←hcl];rfl
 have hcw:IntKind.i64.wrap (cal:Int)=(cal:Int):=by rw[IntKind.wrap_i64];omega
 have hcw2:wrap64 (cal:Int)=(cal:Int):=by unfold wrap64;omega
 have hsp:=EN k M st hM hst n1 n2;have hsv:Fo (AF.new (Du M) ([1,M+1]) (G8 M st) k 0 (List.replicate k 0)) k cl=true:=Qa k M st hM n2 n1 hst cl;replace h8:=Az h8;replace hc12:=Az hc12;replace hsp:=Az hsp;replace hsv:=Az hsv;clear hcl hcal;go_wp2_with fail
 refine(CA.out _ (he.out.below hb2.out)).mono ?_;rintro e w3 (⟨k',M',hk',hM',_,_,_,A,B,C,D,c,k1,k2,k3,rfl,hS,hb⟩ |⟨hbad,rfl,hb⟩);case inr=>exact absurd ⟨k,M,rfl,rfl,hM,n1,n2⟩ hbad
 obtain rfl:k=k':=by omega
 obtain rfl:M=M':=by omega
 have hlen:=hsp.out.pk.l1;obtain⟨ss,hss⟩:∃ x,([1,M+1]:List Nat)=x:=⟨_,rfl⟩
 obtain⟨is,his⟩:∃ x,(G8 M st:List Nat)=x:=⟨_,rfl⟩
 obtain⟨rs,hrs⟩:∃ x,(List.replicate k 0:List Nat)=x:=⟨_,rfl⟩
 obtain⟨pg,hpg⟩:∃ x,Du M=x:=⟨_,rfl⟩
 rw[hpg]at hlen;replace hsp:=hsp.out;replace hsv:=hsv.out;rw[hss,his,hrs,hpg]at hsp hsv hS;rw[hss,his,hrs,hpg];clear hss his hrs hpg CA hk' hM';have RA:=Az (fun(W:World) (hb:Below w3.heap.size w3 W)=>DS (.slice A pg.l.length c) pg.lock pg.unlock 0 B C D ss.length is.length rs.length k1 k2 k3 pg.l W (hS.l.keep hb) (by omega));have RR:=Az (fun(W:World) (va:Value) (h:FF W va (.slice B ss.length k1) (.slice C is.length k2) (.slice D rs.length k3) pg ss is rs)=>EO W va (.slice B ss.length k1) (.slice C is.length k2) (.slice D rs.length k3) pg ss is rs 0 k h.l h.s h.i h.r hsp.h8 hsp.hle hsp.E6 hsp.h1 hsp.h2 (by decide) hsp.Nh hsp.Nn hsp.pk);have SV:=Az (fun(W:World) (va:Value) (h:FF W va (.slice B ss.length k1) (.slice C is.length k2) (.slice D rs.length k3) pg ss is rs)=>JJ W va (.slice B ss.length k1) (.slice C is.length k2) (.slice D rs.length k3) pg ss is rs k cl h hsp h8.out hc12.out);have hb4:=Bw w3 (.cells #[.slice A pg.l.length c,.int .i64 pg.lock,.int .i64 pg.unlock,.slice B ss.length k1,.slice C is.length k2,.int .i64 0,.slice D rs.length k3] 37);have bA:=Bv w3 (.cells #[.slice A pg.l.length c,.int .i64 pg.lock,.int .i64 pg.unlock,.slice B ss.length k1,.slice C is.length k2,.int .i64 0,.slice D rs.length k3] 37);have hz:=hb2.out.trans (hb.mono hb2.out.size);obtain⟨p,hp⟩:∃ p,w3.heap.size=p:=⟨_,rfl⟩
 obtain⟨w4,hw4⟩:∃ y,w3.alloc (.cells #[.slice A pg.l.length c,.int .i64 pg.lock,.int .i64 pg.unlock,.slice B ss.length k1,.slice C is.length k2,.int .i64 0,.slice D rs.length k3] 37)=y:=⟨_,rfl⟩
 rw[hw4]at hb4 bA;rw[hp]at bA;simp only[hsv]at SV;replace hS:=Az hS;replace hb4:=Az hb4;replace hz:=Az hz;replace bA:=Az bA;clear hb hb2 hsp hsv hlen h8 hc12;generalize ss.length=ms at *;generalize is.length=mi at *;generalize rs.length=mr at *;generalize hml:pg.l.length=ml at *;generalize pg.lock=lk at *;generalize pg.unlock=ul at *;clear hml;go_upto_region 6 with fail
 try rw[hw4]
 try rw[hp]
 clear hw4 hp;have d0:w4.cell? ⟨p,0,none⟩=some (.slice A ml c):=(Bc bA.out 0).trans rfl;have d1:w4.cell? ⟨p,1,none⟩=some (.int .i64 lk):=(Bc bA.out 1).trans rfl;have d2:w4.cell? ⟨p,2,none⟩=some (.int .i64 ul):=(Bc bA.out 2).trans rfl;have d3:w4.cell? ⟨p,3,none⟩=some (.slice B ms k1):=(Bc bA.out 3).trans rfl;have d4:w4.cell? ⟨p,4,none⟩=some (.slice C mi k2):=(Bc bA.out 4).trans rfl;have d5:w4.cell? ⟨p,5,none⟩=some (.int .i64 0):=(Bc bA.out 5).trans rfl;have d6:w4.cell? ⟨p,6,none⟩=some (.slice D mr k3):=(Bc bA.out 6).trans rfl;go_wp2_with fail
 refine(RA.out _ hb4.out).mono ?_;rintro e w5 ⟨va,rfl,hr5,hb5⟩;have hS5:=(hS.out.keep hb4.out).ref hb5 hr5;obtain⟨X,y5,z5,rfl⟩:=AV hr5;replace hb4:=Az (hb4.out.trans (hb5.mono hb4.out.size));replace bA:=Az (Bk hb5 bA.out);replace hS5:=Az hS5;clear hr5 hb5 d0 d1 d2 d3 d4 d5 d6;go_wp2_with fail
 refine(RR.out _ _ hS5.out).mono ?_;rintro e w6 ⟨rfl,hb6⟩;replace hb4:=Az (hb4.out.trans (hb6.mono hb4.out.size));replace bA:=Az (Bk hb6 bA.out);clear hb6 hS5 RR;have d0:w6.cell? ⟨p,0,none⟩=some (.slice A ml c):=(Bc bA.out 0).trans rfl;have d1:w6.cell? ⟨p,1,none⟩=some (.int .i64 lk):=(Bc bA.out 1).trans rfl;have d2:w6.cell? ⟨p,2,none⟩=some (.int .i64 ul):=(Bc bA.out 2).trans rfl;have d3:w6.cell? ⟨p,3,none⟩=some (.slice B ms k1):=(Bc bA.out 3).trans rfl;have d4:w6.cell? ⟨p,4,none⟩=some (.slice C mi k2):=(Bc bA.out 4).trans rfl;have d5:w6.cell? ⟨p,5,none⟩=some (.int .i64 0):=(Bc bA.out 5).trans rfl;have d6:w6.cell? ⟨p,6,none⟩=some (.slice D mr k3):=(Bc bA.out 6).trans rfl;go_wp2_with fail
 refine(RA.out _ hb4.out).mono ?_;rintro e w7 ⟨vb,rfl,hr7,hb7⟩;have hS7:=(hS.out.keep hb4.out).ref hb7 hr7;obtain⟨Y,y7,z7,rfl⟩:=AV hr7;replace hb4:=Az (hb4.out.trans (hb7.mono hb4.out.size));replace hS7:=Az hS7;clear hr7 hb7 d0 d1 d2 d3 d4 d5 d6 RA;go_wp2_with fail
 refine(SV.out _ _ hS7.out).mono ?_;rintro e w8 ⟨rfl,hb8⟩;have hz8:=hz.out.trans ((hb4.out.trans (hb8.mono hb4.out.size)).mono hz.out.size);replace hz:=Az hz8;clear hb8 hb4 hS7 SV bA hz8;go_wp2_with fail
 refine(AW.out _ (he.out.below hz.out)).mono ?_;rintro e w9 ⟨rfl,hb9⟩;replace hz:=Az (hz.out.trans (hb9.mono hz.out.size));clear hb9 AW;go_wp2;go_ret;exact⟨rfl,hbi.out.trans (hz.out.mono hbi.out.size)⟩
theorem Hh(z0 z1 z2:Int)(wz2:(Lit.int .u32 z2).wf=true)(x1:Int)(wx1:(Lit.int .u8 x1).wf=true)(w:World)(he:Env w):Calls Tryz.prog 6 #[.agg #[.int .i64 z0,.int .i64 z1,.int .u32 z2],.int .u8 x1] w fun e w'=>e=.returned (.bool true)∧Below w.heap.size w w':=by
 have b2:=wf_u32 wz2;obtain⟨st,rfl⟩:∃ c:Nat,z2=(c:Int):=⟨z2.toNat,by omega⟩
 have b1:=wf_u8 wx1;obtain⟨cal,rfl⟩:∃ c:Nat,x1=(c:Int):=⟨x1.toNat,by omega⟩
 exact HW z0 z1 st (by omega) cal (by omega) w he
end
end Go.Proofs.YtjjpiefgdggghaaGreatDoor

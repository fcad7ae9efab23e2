/- ref14's words, ref07's Same, ref14's SameSpec of alike ones: true. -/
import Derived.Test.YtjjpiefgdggghaaGreatDoorA03
import Derived.Test.YtjjpiefgdggghaaGreatDoorA22
import Derived.Deep.RegionHeld3
set_option linter.unusedVariables false
set_option linter.unusedSimpArgs false
set_option maxRecDepth 100000
set_option maxHeartbeats 40000000
namespace Go.Proofs.YtjjpiefgdggghaaGreatDoor
section
open Go.RowKit Go.Proofs.YtjjpiefgdggghaaGreatDoorW.PrintWords
theorem HD(va vb:Value)(xs:List Int)(W:World)(ha:Bx W va xs.length (xs.map (Value.int .u32)))(hb:Bx W vb xs.length (xs.map (Value.int .u32)))(hn:xs.length≤1000000) :
  Calls Tryz.prog 46 #[va,vb] W fun e W'=>e=.returned (.bool true)∧Below W.heap.size W W':=by
 obtain⟨A,c,rfl⟩:=ha.slice;obtain⟨B,d,rfl⟩:=hb.slice;obtain⟨n,hl⟩:∃ n,xs.length=n:=⟨_,rfl⟩
 rw[hl]at ha hb hn ⊢;replace ha:=Az ha;replace hb:=Az hb;replace hl:=Az hl;go_enter Tryz.func46,Tryz.ntmps46;go_wp2_with fail
 go_loopw [13] (fun v13 wr=>∃ k:Nat,v13=.int .i64 k∧k≤n∧Ag (Below W.heap.size W wr)) (fun v13 _=>n-(intOf v13).toNat)
 case atStart=>exact⟨0,rfl,Nat.zero_le _,⟨Below.refl _ _⟩⟩
 case round =>
  obtain⟨k,rfl,hk,hB⟩:=hrel;by_cases hlt:k<n
  ·obtain⟨ga,c',hva,hca⟩:=(ha.out.keep hB.out).cells (by omega);obtain⟨gb,d',hvb,hcb⟩:=(hb.out.keep hB.out).cells (by omega);obtain⟨rfl,rfl⟩:A=some ⟨ga,0,none⟩∧c=c':=by injection hva with h1 h2 h3;exact⟨h1,h3⟩
   obtain⟨rfl,rfl⟩:B=some ⟨gb,0,none⟩∧d=d':=by injection hvb with h1 h2 h3;exact⟨h1,h3⟩
   have hx:(xs.map (Value.int .u32))[k]?=some (.int .u32 (xs.getD k 0)):=by
    simp[List.getD_eq_getElem?_getD,List.getElem?_eq_getElem (show k<xs.length by rw[hl.out];exact hlt)]
   have ca:=hca k _ hx;have cb:=hcb k _ hx;generalize xs.getD k 0=y at ca cb;have hk0:(0:Int)≤(k:Int):=by omega
   have hk1:(k:Int)<(n:Int):=by omega
   have hkw:IntKind.i64.wrap ((k:Int)+1)=(k:Int)+1:=by rw[IntKind.wrap_i64];omega
   have hS:wr.drew.cell? ⟨ga,k,none⟩=some (.int .u32 y)∧wr.drew.cell? ⟨gb,k,none⟩=some (.int .u32 y):=⟨ca,cb⟩
   clear hca hcb hva hvb hx;go_wp2_with fail
   go_region_held3 (fun W=>W.cell? ⟨ga,k,none⟩=some (.int .u32 y)∧W.cell? ⟨gb,k,none⟩=some (.int .u32 y)) (first |exact hS) (first |fail)
   go_wp2;go_roundw
   case rel=>exact⟨k+1,by go_num,hlt,⟨Bd hB.out⟩⟩
   case measure=>simp[intOf];omega
  ·obtain rfl:k=n:=by omega
   have hge:¬(k:Int)<(k:Int):=by omega
   go_wp2;go_ret;exact⟨rfl,hB.out⟩
theorem Ry(x:In)(w:World):(binOp .neq 114 x.v x.v).run Tryz.prog w=.ok (.bool false) w:=by
 have h:=TW 9998 w x.op x.d x.s x.t x.u x.a x.k x.q x.op x.d x.s x.t x.u x.a x.k x.q;simp only[binOp,In.v];simp[Op.equal,Op.maxDepth,h]
theorem MI(va vb:Value)(l u:Int)(xs:List In)(W:World)(ha:Bx W va xs.length (AQ xs))(hb:Bx W vb xs.length (AQ xs))(hn:xs.length≤1000000) :
  Calls Tryz.prog 45 #[.agg #[va,.int .i64 l,.int .i64 u],.agg #[vb,.int .i64 l,.int .i64 u]] W fun e W'=>e=.returned (.bool true)∧Below W.heap.size W W':=by
 obtain⟨A,c,rfl⟩:=ha.slice;obtain⟨B,d,rfl⟩:=hb.slice;obtain⟨n,hl⟩:∃ n,xs.length=n:=⟨_,rfl⟩
 rw[hl]at ha hb hn ⊢;have hBl:=Az (((Below.refl W.heap.size W).alloc (Nl _) (.cells #[.slice A n c,.int .i64 l,.int .i64 u] 25)).alloc (by simp) (.cells #[.slice B n d,.int .i64 l,.int .i64 u] 25));have b1:=Az (AZ (Bv W (.cells #[.slice A n c,.int .i64 l,.int .i64 u] 25)) (.cells #[.slice B n d,.int .i64 l,.int .i64 u] 25));have b2:=Az (Cv W (.cells #[.slice A n c,.int .i64 l,.int .i64 u] 25) (.cells #[.slice B n d,.int .i64 l,.int .i64 u] 25));replace ha:=Az ha;replace hb:=Az hb;replace hl:=Az hl;go_enter Tryz.func45,Tryz.ntmps45;go_wp2_with fail
 go_loopw [30] (fun v30 wr=>∃ k:Nat,v30=.int .i64 k∧k≤n∧Ag (Below W.heap.size W wr)∧Ag (wr.heap[W.heap.size]?=some (.cells #[.slice A n c,.int .i64 l,.int .i64 u] 25 (0,0)))∧Ag (wr.heap[W.heap.size+1]?=some (.cells #[.slice B n d,.int .i64 l,.int .i64 u] 25 (0,0)))) (fun v30 _=>n-(intOf v30).toNat)
 case atStart=>exact⟨0,rfl,Nat.zero_le _,hBl,b1,b2⟩
 case round =>
  obtain⟨k,rfl,hk,hB,c1,c2⟩:=hrel;by_cases hlt:k<n
  ·obtain⟨ga,c',hva,hca⟩:=(ha.out.keep hB.out).cells (by omega);obtain⟨gb,d',hvb,hcb⟩:=(hb.out.keep hB.out).cells (by omega);obtain⟨rfl,rfl⟩:A=some ⟨ga,0,none⟩∧c=c':=by injection hva with h1 h2 h3;exact⟨h1,h3⟩
   obtain⟨rfl,rfl⟩:B=some ⟨gb,0,none⟩∧d=d':=by injection hvb with h1 h2 h3;exact⟨h1,h3⟩
   have hkx:k<xs.length:=by rw[hl.out];exact hlt
   obtain⟨⟨op,dd,s,t,uu,a,kk,q⟩,hi⟩:∃ i,xs.getD k In.zero=i:=⟨_,rfl⟩
   obtain⟨a0,a1,a2,a3,a4,a5,a6,a7⟩:=D7 hca hkx hi;obtain⟨e0,e1,e2,e3,e4,e5,e6,e7⟩:=D7 hcb hkx hi;have x0:wr.cell? ⟨W.heap.size,0,none⟩=some (.slice (some ⟨ga,0,none⟩) n c):=(Bc c1.out 0).trans rfl;have y0:wr.cell? ⟨W.heap.size+1,0,none⟩=some (.slice (some ⟨gb,0,none⟩) n d):=(Bc c2.out 0).trans rfl;have hk0:(0:Int)≤(k:Int):=by omega
   have hk1:(k:Int)<(n:Int):=by omega
   have hkw:IntKind.i64.wrap ((k:Int)+1)=(k:Int)+1:=by rw[IntKind.wrap_i64];omega
   have hne:=fun w=>Ry ⟨op,dd,s,t,uu,a,kk,q⟩ w
   simp only[In.v]at hne;have hS:wr.drew.cell? ⟨W.heap.size,0,none⟩=some (.slice (some ⟨ga,0,none⟩) n c)∧wr.drew.cell? ⟨W.heap.size+1,0,none⟩=some (.slice (some ⟨gb,0,none⟩) n d) ∧
    (wr.drew.cell? ⟨ga,k*8,none⟩=some (.int .i64 op)∧wr.drew.cell? ⟨ga,k*8+1,none⟩=some (.int .i64 dd)∧wr.drew.cell? ⟨ga,k*8+2,none⟩=some (.int .i64 s)∧wr.drew.cell? ⟨ga,k*8+3,none⟩=some (.int .i64 t)∧wr.drew.cell? ⟨ga,k*8+4,none⟩=some (.int .i64 uu)∧wr.drew.cell? ⟨ga,k*8+5,none⟩=some (.int .i64 a)∧wr.drew.cell? ⟨ga,k*8+6,none⟩=some (.int .u32 kk)∧wr.drew.cell? ⟨ga,k*8+7,none⟩=some (.int .i64 q)) ∧
    (wr.drew.cell? ⟨gb,k*8,none⟩=some (.int .i64 op)∧wr.drew.cell? ⟨gb,k*8+1,none⟩=some (.int .i64 dd)∧wr.drew.cell? ⟨gb,k*8+2,none⟩=some (.int .i64 s)∧wr.drew.cell? ⟨gb,k*8+3,none⟩=some (.int .i64 t)∧wr.drew.cell? ⟨gb,k*8+4,none⟩=some (.int .i64 uu)∧wr.drew.cell? ⟨gb,k*8+5,none⟩=some (.int .i64 a)∧wr.drew.cell? ⟨gb,k*8+6,none⟩=some (.int .u32 kk)∧wr.drew.cell? ⟨gb,k*8+7,none⟩=some (.int .i64 q)) :=
    ⟨x0,y0,⟨a0,a1,a2,a3,a4,a5,a6,a7⟩,e0,e1,e2,e3,e4,e5,e6,e7⟩
   clear hca hcb hva hvb hi hkx;go_wp2_with fail
   go_region_held3 (fun W'=>W'.cell? ⟨W.heap.size,0,none⟩=some (.slice (some ⟨ga,0,none⟩) n c)∧W'.cell? ⟨W.heap.size+1,0,none⟩=some (.slice (some ⟨gb,0,none⟩) n d) ∧
    (W'.cell? ⟨ga,k*8,none⟩=some (.int .i64 op)∧W'.cell? ⟨ga,k*8+1,none⟩=some (.int .i64 dd)∧W'.cell? ⟨ga,k*8+2,none⟩=some (.int .i64 s)∧W'.cell? ⟨ga,k*8+3,none⟩=some (.int .i64 t)∧W'.cell? ⟨ga,k*8+4,none⟩=some (.int .i64 uu)∧W'.cell? ⟨ga,k*8+5,none⟩=some (.int .i64 a)∧W'.cell? ⟨ga,k*8+6,none⟩=some (.int .u32 kk)∧W'.cell? ⟨ga,k*8+7,none⟩=some (.int .i64 q)) ∧
    (W'.cell? ⟨gb,k*8,none⟩=some (.int .i64 op)∧W'.cell? ⟨gb,k*8+1,none⟩=some (.int .i64 dd)∧W'.cell? ⟨gb,k*8+2,none⟩=some (.int .i64 s)∧W'.cell? ⟨gb,k*8+3,none⟩=some (.int .i64 t)∧W'.cell? ⟨gb,k*8+4,none⟩=some (.int .i64 uu)∧W'.cell? ⟨gb,k*8+5,none⟩=some (.int .i64 a)∧W'.cell? ⟨gb,k*8+6,none⟩=some (.int .u32 kk)∧W'.cell? ⟨gb,k*8+7,none⟩=some (.int .i64 q))) (first |exact hS) (first |fail)
   go_wp2;go_roundw
   case rel=>exact⟨k+1,by go_num,hlt,⟨Bd hB.out⟩,⟨Be c1.out⟩,⟨Be c2.out⟩⟩
   case measure=>simp[intOf];omega
  ·obtain rfl:k=n:=by omega
   have hge:¬(k:Int)<(k:Int):=by omega
   go_wp2;go_ret;exact⟨rfl,hB.out⟩
theorem Gm(va vb sa sb ia ib ra rb:Value)(l u each:Int)(xs:List In)(ss is rs:List Int)(W:World)(ha:Bx W va xs.length (AQ xs))(hb:Bx W vb xs.length (AQ xs))
  (hsa:Bx W sa ss.length (ss.map (Value.int .i64)))(hsb:Bx W sb ss.length (ss.map (Value.int .i64)))(hia:Bx W ia is.length (is.map (Value.int .u32)))(hib:Bx W ib is.length (is.map (Value.int .u32)))
  (hra:Bx W ra rs.length (rs.map (Value.int .u32)))(hrb:Bx W rb rs.length (rs.map (Value.int .u32)))(hn:xs.length≤1000000)(hs:ss.length≤1000000)(hi:is.length≤1000000)(hr:rs.length≤1000000) :
  Calls Tryz.prog 19 #[.agg #[va,.int .i64 l,.int .i64 u,sa,ia,.int .i64 each,ra],.agg #[vb,.int .i64 l,.int .i64 u,sb,ib,.int .i64 each,rb]] W fun e W'=>e=.returned (.bool true)∧Below W.heap.size W W':=by
 obtain⟨A,c,rfl⟩:=hsa.slice;obtain⟨B,d,rfl⟩:=hsb.slice;obtain⟨n,hl⟩:∃ n,ss.length=n:=⟨_,rfl⟩
 rw[hl]at hsa hsb hs ⊢;have hBl:=Az (((Below.refl W.heap.size W).alloc (Nl _) (.cells #[va,.int .i64 l,.int .i64 u,.slice A n c,ia,.int .i64 each,ra] 29)).alloc (by simp) (.cells #[vb,.int .i64 l,.int .i64 u,.slice B n d,ib,.int .i64 each,rb] 29));have b1:=Az (AZ (Bv W (.cells #[va,.int .i64 l,.int .i64 u,.slice A n c,ia,.int .i64 each,ra] 29)) (.cells #[vb,.int .i64 l,.int .i64 u,.slice B n d,ib,.int .i64 each,rb] 29));have b2:=Az (Cv W (.cells #[va,.int .i64 l,.int .i64 u,.slice A n c,ia,.int .i64 each,ra] 29) (.cells #[vb,.int .i64 l,.int .i64 u,.slice B n d,ib,.int .i64 each,rb] 29));replace hsa:=Az hsa;replace hsb:=Az hsb;replace hl:=Az hl;have C1:=Az (fun(W':World) (hb':Below W.heap.size W W')=>MI va vb l u xs W' (ha.keep hb') (hb.keep hb') hn);have C2:=Az (fun(W':World) (hb':Below W.heap.size W W')=>HD ia ib is W' (hia.keep hb') (hib.keep hb') hi);have C3:=Az (fun(W':World) (hb':Below W.heap.size W W')=>HD ra rb rs W' (hra.keep hb') (hrb.keep hb') hr);obtain⟨A1,e1,rfl⟩:=ha.slice;obtain⟨A2,e2,rfl⟩:=hb.slice;obtain⟨A3,e3,rfl⟩:=hia.slice;obtain⟨A4,e4,rfl⟩:=hib.slice;obtain⟨A5,e5,rfl⟩:=hra.slice;obtain⟨A6,e6,rfl⟩:=hrb.slice;generalize xs.length=nx at *;generalize is.length=ni at *;generalize rs.length=nr at *;clear ha hb hia hib hra hrb hn hi hr;go_enter Tryz.func19,Tryz.ntmps19;go_wp2_with fail
 go_loopw [23] (fun v23 wr=>∃ k:Nat,v23=.int .i64 k∧k≤n∧Ag (Below W.heap.size W wr)∧Ag (wr.heap[W.heap.size]?=some (.cells #[.slice A1 nx e1,.int .i64 l,.int .i64 u,.slice A n c,.slice A3 ni e3,.int .i64 each,.slice A5 nr e5] 29 (0,0)))∧Ag (wr.heap[W.heap.size+1]?=some (.cells #[.slice A2 nx e2,.int .i64 l,.int .i64 u,.slice B n d,.slice A4 ni e4,.int .i64 each,.slice A6 nr e6] 29 (0,0)))) (fun v23 _=>n-(intOf v23).toNat)
 case atStart=>exact⟨0,rfl,Nat.zero_le _,hBl,b1,b2⟩
 case round =>
  obtain⟨k,rfl,hk,hB,c1,c2⟩:=hrel;by_cases hlt:k<n
  ·obtain⟨ga,c',hva,hca⟩:=(hsa.out.keep hB.out).cells (by omega);obtain⟨gb,d',hvb,hcb⟩:=(hsb.out.keep hB.out).cells (by omega);obtain⟨rfl,rfl⟩:A=some ⟨ga,0,none⟩∧c=c':=by injection hva with h1 h2 h3;exact⟨h1,h3⟩
   obtain⟨rfl,rfl⟩:B=some ⟨gb,0,none⟩∧d=d':=by injection hvb with h1 h2 h3;exact⟨h1,h3⟩
   have hx:(ss.map (Value.int .i64))[k]?=some (.int .i64 (ss.getD k 0)):=by
    simp[List.getD_eq_getElem?_getD,List.getElem?_eq_getElem (show k<ss.length by rw[hl.out];exact hlt)]
   have ca:=hca k _ hx;have cb:=hcb k _ hx;generalize ss.getD k 0=y at ca cb;have x0:wr.cell? ⟨W.heap.size,3,none⟩=some (.slice (some ⟨ga,0,none⟩) n c):=(Bc c1.out 3).trans rfl;have y0:wr.cell? ⟨W.heap.size+1,3,none⟩=some (.slice (some ⟨gb,0,none⟩) n d):=(Bc c2.out 3).trans rfl;have hk0:(0:Int)≤(k:Int):=by omega
   have hk1:(k:Int)<(n:Int):=by omega
   have hkw:IntKind.i64.wrap ((k:Int)+1)=(k:Int)+1:=by rw[IntKind.wrap_i64];omega
   have hS:wr.drew.cell? ⟨W.heap.size,3,none⟩=some (.slice (some ⟨ga,0,none⟩) n c)∧wr.drew.cell? ⟨W.heap.size+1,3,none⟩=some (.slice (some ⟨gb,0,none⟩) n d)∧wr.drew.cell? ⟨ga,k,none⟩=some (.int .i64 y)∧wr.drew.cell? ⟨gb,k,none⟩=some (.int .i64 y):=⟨x0,y0,ca,cb⟩
   clear hca hcb hva hvb hx;go_wp2_with fail
   go_region_held3 (fun W'=>W'.cell? ⟨W.heap.size,3,none⟩=some (.slice (some ⟨ga,0,none⟩) n c)∧W'.cell? ⟨W.heap.size+1,3,none⟩=some (.slice (some ⟨gb,0,none⟩) n d)∧W'.cell? ⟨ga,k,none⟩=some (.int .i64 y)∧W'.cell? ⟨gb,k,none⟩=some (.int .i64 y)) (first |exact hS) (first |fail)
   go_wp2;go_roundw
   case rel=>exact⟨k+1,by go_num,hlt,⟨Bd hB.out⟩,⟨Be c1.out⟩,⟨Be c2.out⟩⟩
   case measure=>simp[intOf];omega
  ·obtain rfl:k=n:=by omega
   have hge:¬(k:Int)<(k:Int):=by omega
   have x0:wr.cell? ⟨W.heap.size,0,none⟩=some (.slice A1 nx e1):=(Bc c1.out 0).trans rfl;have x1:wr.cell? ⟨W.heap.size,1,none⟩=some (.int .i64 l):=(Bc c1.out 1).trans rfl;have x2:wr.cell? ⟨W.heap.size,2,none⟩=some (.int .i64 u):=(Bc c1.out 2).trans rfl;have y0:wr.cell? ⟨W.heap.size+1,0,none⟩=some (.slice A2 nx e2):=(Bc c2.out 0).trans rfl;have y1:wr.cell? ⟨W.heap.size+1,1,none⟩=some (.int .i64 l):=(Bc c2.out 1).trans rfl;have y2:wr.cell? ⟨W.heap.size+1,2,none⟩=some (.int .i64 u):=(Bc c2.out 2).trans rfl;go_wp2_with fail
   refine(C1.out _ hB.out).mono ?_;rintro e w1 ⟨rfl,hb1⟩;replace c1:=Az (Bk hb1 c1.out);replace c2:=Az (Bk hb1 c2.out);replace hB:=Az (hB.out.trans (hb1.mono hB.out.size));have x4:w1.cell? ⟨W.heap.size,4,none⟩=some (.slice A3 ni e3):=(Bc c1.out 4).trans rfl;have y4:w1.cell? ⟨W.heap.size+1,4,none⟩=some (.slice A4 ni e4):=(Bc c2.out 4).trans rfl;clear x0 x1 x2 y0 y1 y2 hb1 C1;go_wp2_with fail
   refine(C2.out _ hB.out).mono ?_;rintro e w2 ⟨rfl,hb2⟩;replace c1:=Az (Bk hb2 c1.out);replace c2:=Az (Bk hb2 c2.out);replace hB:=Az (hB.out.trans (hb2.mono hB.out.size));have x6:w2.cell? ⟨W.heap.size,6,none⟩=some (.slice A5 nr e5):=(Bc c1.out 6).trans rfl;have y6:w2.cell? ⟨W.heap.size+1,6,none⟩=some (.slice A6 nr e6):=(Bc c2.out 6).trans rfl;clear x4 y4 hb2 C2;go_wp2_with fail
   refine(C3.out _ hB.out).mono ?_;rintro e w3 ⟨rfl,hb3⟩;replace hB:=Az (hB.out.trans (hb3.mono hB.out.size));clear hb3 C3 c1 c2;go_wp2;go_ret;exact⟨rfl,hB.out⟩
end
end Go.Proofs.YtjjpiefgdggghaaGreatDoor

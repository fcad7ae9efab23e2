/- Parts: RefRight, RefText, RefParseKit. -/
import Derived.Test.YtjjpiefgdggghaaGreatDoorA03
import Derived.Test.YtjjpiefgdggghaaGreatDoorA24
import Derived.Test.YtjjpiefgdggghaaGreatDoorA25
import Derived.Test.YtjjpiefgdggghaaGreatDoorA26
import Derived.Test.YtjjpiefgdggghaaGreatDoorA27
import Derived.Deep.RegionHeld3
import Derived.Test.YtjjpiefgdggghaaGreatDoorA04
import Derived.Test.YtjjpiefgdggghaaGreatDoorA10
import Derived.Test.YtjjpiefgdggghaaGreatDoorA14
set_option linter.unusedVariables false
set_option linter.unusedSimpArgs false
set_option maxRecDepth 100000
set_option maxHeartbeats 40000000
namespace Go.Proofs.YtjjpiefgdggghaaGreatDoor
section
open Go.RowKit Go.Proofs.YtjjpiefgdggghaaGreatDoorW.PrintWords
structure In.K7 (i:In):Prop where
 d:0≤i.d∧i.d≤7
 s:0≤i.s∧i.s≤7
 t:0≤i.t∧i.t≤7
 u:0≤i.u∧i.u≤7
 a:0≤i.a∧i.a≤7
theorem Np{places s:Int}{r r':In}(h:BB places s r=some r')(hr:r'.K7):r.K7:=by
 unfold BB at h;obtain⟨h1,h2,h3,h4,h5⟩:=hr;cases hf:Ay s with
 |some j =>
  rw[hf]at h;dsimp only at h;by_cases hb:r.get j<0∨7<r.get j
  ·rw[if_pos hb]at h;cases h
  rw[if_neg hb]at h;cases h;have hb':0≤r.get j∧r.get j≤7:=by omega
  clear hb;rcases Cr hf with ⟨_,rfl⟩ |⟨_,rfl⟩ |⟨_,rfl⟩ |⟨_,rfl⟩ |⟨_,rfl⟩
  all_goals (simp only[In.put,In.get]at *;constructor<;>assumption)
 |none =>
  rw[hf]at h;dsimp only at h;by_cases c1:s=75
  ·rw[if_pos c1]at h;cases h;constructor<;>assumption
  rw[if_neg c1]at h;by_cases c2:s=66
  ·rw[if_pos c2]at h;by_cases b:31<r.k
   ·rw[if_pos b]at h;cases h
   rw[if_neg b]at h;cases h;constructor<;>assumption
  rw[if_neg c2]at h;by_cases c3:s=77
  ·rw[if_pos c3]at h;by_cases b:r.k<1∨4<r.k
   ·rw[if_pos b]at h;cases h
   rw[if_neg b]at h;cases h;constructor<;>assumption
  rw[if_neg c3]at h;by_cases c4:s=79
  ·rw[if_pos c4]at h;by_cases b:3<r.k
   ·rw[if_pos b]at h;cases h
   rw[if_neg b]at h;cases h;constructor<;>assumption
  rw[if_neg c4]at h;by_cases c5:s=87
  ·rw[if_pos c5]at h;by_cases b:1<r.k
   ·rw[if_pos b]at h;cases h
   rw[if_neg b]at h;by_cases b2:r.t<0∨7<r.t∨r.q < -1∨(r.q ≠ -1∧places≤r.q)
   ·rw[if_pos b2]at h;cases h
   rw[if_neg b2]at h;cases h;exact⟨h1,h2,by omega,h4,h5⟩
  rw[if_neg c5]at h;by_cases c6:s=80
  ·rw[if_pos c6]at h;by_cases b:r.q<0∨places≤r.q
   ·rw[if_pos b]at h;cases h
   rw[if_neg b]at h;cases h;exact⟨h1,h2,h3,h4,h5⟩
  rw[if_neg c6]at h;cases h;constructor<;>assumption
theorem Jd{places:Int}:∀ (l:List UInt8) (r r':In),AN places l r=some r'→r'.K7→r.K7
 |[],r,r',h,hr=>by cases h;exact hr
 |c::l,r,r',h,hr=>by
  unfold AN at h;cases hs:BB places (c.toNat:Int) r with
  |none=>rw[hs]at h;cases h
  |some r1 =>
   rw[hs]at h;exact Np hs (Jd l r1 r' h hr)
theorem KX{i:In}{places:Int}(h:AD i places=true):Aj i.op≠[]:=by
 intro e;unfold AD at h;rw[if_pos e]at h;cases h
theorem LQ{i:In}{places:Int}(h:AD i places=true):i.K7:=by
 have hn:=KX h;rw[Bm _ _ hn]at h;cases hf:AN places (AU i.op) {i with op:=0} with
 |none=>rw[hf]at h;cases h
 |some r =>
  rw[hf]at h;have e:r=In.zero:=of_decide_eq_true h;subst e;have:=Jd _ _ _ hf ⟨by decide,by decide,by decide,by decide,by decide⟩;exact⟨this.d,this.s,this.t,this.u,this.a⟩
theorem IQ(op d s t u a k q places:Int)(w:World)(hn:Aj op=[]) :
  Calls Tryz.prog 69 #[.agg #[.int .i64 op,.int .i64 d,.int .i64 s,.int .i64 t,.int .i64 u,.int .i64 a,.int .u32 k,.int .i64 q],.int .i64 places] w fun e w'=>e=.returned (.bool false)∧Below w.heap.size w w':=by
 replace hn:=Az hn;go_enter Tryz.func69,Tryz.ntmps69;go_wp2_with fail
 refine(Aw op _).mono ?_;rintro e w1 ⟨rfl,hb⟩;rw[hn.out];go_wp2;go_ret;exact⟨rfl,((Below.refl w.heap.size w).alloc (Nl _) _).trans (hb.mono (by simp))⟩
theorem Je(op d s t u a k q places:Int)(w:World)(hn:Aj op≠[])(hd:¬(0≤d∧d≤7)) :
  Calls Tryz.prog 69 #[.agg #[.int .i64 op,.int .i64 d,.int .i64 s,.int .i64 t,.int .i64 u,.int .i64 a,.int .u32 k,.int .i64 q],.int .i64 places] w fun e w'=>e=.returned (.bool false)∧Below w.heap.size w w':=by
 have hne:(Aj op).isEmpty=false:=by cases h:Aj op<;>simp_all
 clear hn;replace hd:=Az hd;go_enter Tryz.func69,Tryz.ntmps69;go_wp2_with fail
 refine(Aw op _).mono ?_;rintro e w1 ⟨rfl,hb⟩;have BK:=Az (Bk hb (Bv w _));have z:w.heap.size<w1.heap.size:=Bl BK.out;have c1:w1.cell? ⟨w.heap.size,1,none⟩=some (.int .i64 d):=(Bc BK.out 1).trans rfl;go_wp2_with fail
 refine(Jf d hd.out _).mono ?_;rintro e w' ⟨rfl,rfl⟩;go_wp2;go_ret;exact⟨rfl,((Below.refl w.heap.size w).alloc (Nl _) _).trans (hb.mono (by simp))⟩
theorem Jg(op d s t u a k q places:Int)(w:World)(hn:Aj op≠[])(hd:0≤d∧d≤7)(hs:¬(0≤s∧s≤7)) :
  Calls Tryz.prog 69 #[.agg #[.int .i64 op,.int .i64 d,.int .i64 s,.int .i64 t,.int .i64 u,.int .i64 a,.int .u32 k,.int .i64 q],.int .i64 places] w fun e w'=>e=.returned (.bool false)∧Below w.heap.size w w':=by
 have hne:(Aj op).isEmpty=false:=by cases h:Aj op<;>simp_all
 clear hn;replace hs:=Az hs;go_enter Tryz.func69,Tryz.ntmps69;go_wp2_with fail
 refine(Aw op _).mono ?_;rintro e w1 ⟨rfl,hb⟩;have BK:=Az (Bk hb (Bv w _));have z:w.heap.size<w1.heap.size:=Bl BK.out;have c1:w1.cell? ⟨w.heap.size,1,none⟩=some (.int .i64 d):=(Bc BK.out 1).trans rfl;have c2:w1.cell? ⟨w.heap.size,2,none⟩=some (.int .i64 s):=(Bc BK.out 2).trans rfl;go_wp2_with fail
 refine(An d hd _).mono ?_;rintro e w' ⟨rfl,rfl⟩;go_wp2_with fail
 refine(Jf s hs.out _).mono ?_;rintro e w' ⟨rfl,rfl⟩;go_wp2;go_ret;exact⟨rfl,((Below.refl w.heap.size w).alloc (Nl _) _).trans (hb.mono (by simp))⟩
theorem Jh(op d s t u a k q places:Int)(w:World)(hn:Aj op≠[])(hd:0≤d∧d≤7)(hs:0≤s∧s≤7)(ht:¬(0≤t∧t≤7)) :
  Calls Tryz.prog 69 #[.agg #[.int .i64 op,.int .i64 d,.int .i64 s,.int .i64 t,.int .i64 u,.int .i64 a,.int .u32 k,.int .i64 q],.int .i64 places] w fun e w'=>e=.returned (.bool false)∧Below w.heap.size w w':=by
 have hne:(Aj op).isEmpty=false:=by cases h:Aj op<;>simp_all
 clear hn;replace ht:=Az ht;go_enter Tryz.func69,Tryz.ntmps69;go_wp2_with fail
 refine(Aw op _).mono ?_;rintro e w1 ⟨rfl,hb⟩;have BK:=Az (Bk hb (Bv w _));have z:w.heap.size<w1.heap.size:=Bl BK.out;have c1:w1.cell? ⟨w.heap.size,1,none⟩=some (.int .i64 d):=(Bc BK.out 1).trans rfl;have c2:w1.cell? ⟨w.heap.size,2,none⟩=some (.int .i64 s):=(Bc BK.out 2).trans rfl;have c3:w1.cell? ⟨w.heap.size,3,none⟩=some (.int .i64 t):=(Bc BK.out 3).trans rfl;go_wp2_with fail
 refine(An d hd _).mono ?_;rintro e w' ⟨rfl,rfl⟩;go_wp2_with fail
 refine(An s hs _).mono ?_;rintro e w' ⟨rfl,rfl⟩;go_wp2_with fail
 refine(Jf t ht.out _).mono ?_;rintro e w' ⟨rfl,rfl⟩;go_wp2;go_ret;exact⟨rfl,((Below.refl w.heap.size w).alloc (Nl _) _).trans (hb.mono (by simp))⟩
theorem Ji(op d s t u a k q places:Int)(w:World)(hn:Aj op≠[])(hd:0≤d∧d≤7)(hs:0≤s∧s≤7)(ht:0≤t∧t≤7)(hu:¬(0≤u∧u≤7)) :
  Calls Tryz.prog 69 #[.agg #[.int .i64 op,.int .i64 d,.int .i64 s,.int .i64 t,.int .i64 u,.int .i64 a,.int .u32 k,.int .i64 q],.int .i64 places] w fun e w'=>e=.returned (.bool false)∧Below w.heap.size w w':=by
 have hne:(Aj op).isEmpty=false:=by cases h:Aj op<;>simp_all
 clear hn;replace hu:=Az hu;go_enter Tryz.func69,Tryz.ntmps69;go_wp2_with fail
 refine(Aw op _).mono ?_;rintro e w1 ⟨rfl,hb⟩;have BK:=Az (Bk hb (Bv w _));have z:w.heap.size<w1.heap.size:=Bl BK.out;have c1:w1.cell? ⟨w.heap.size,1,none⟩=some (.int .i64 d):=(Bc BK.out 1).trans rfl;have c2:w1.cell? ⟨w.heap.size,2,none⟩=some (.int .i64 s):=(Bc BK.out 2).trans rfl;have c3:w1.cell? ⟨w.heap.size,3,none⟩=some (.int .i64 t):=(Bc BK.out 3).trans rfl;have c4:w1.cell? ⟨w.heap.size,4,none⟩=some (.int .i64 u):=(Bc BK.out 4).trans rfl;go_wp2_with fail
 refine(An d hd _).mono ?_;rintro e w' ⟨rfl,rfl⟩;go_wp2_with fail
 refine(An s hs _).mono ?_;rintro e w' ⟨rfl,rfl⟩;go_wp2_with fail
 refine(An t ht _).mono ?_;rintro e w' ⟨rfl,rfl⟩;go_wp2_with fail
 refine(Jf u hu.out _).mono ?_;rintro e w' ⟨rfl,rfl⟩;go_wp2;go_ret;exact⟨rfl,((Below.refl w.heap.size w).alloc (Nl _) _).trans (hb.mono (by simp))⟩
theorem Jj(op d s t u a k q places:Int)(w:World)(hn:Aj op≠[])(hd:0≤d∧d≤7)(hs:0≤s∧s≤7)(ht:0≤t∧t≤7)(hu:0≤u∧u≤7)(ha:¬(0≤a∧a≤7)) :
  Calls Tryz.prog 69 #[.agg #[.int .i64 op,.int .i64 d,.int .i64 s,.int .i64 t,.int .i64 u,.int .i64 a,.int .u32 k,.int .i64 q],.int .i64 places] w fun e w'=>e=.returned (.bool false)∧Below w.heap.size w w':=by
 have hne:(Aj op).isEmpty=false:=by cases h:Aj op<;>simp_all
 clear hn;replace ha:=Az ha;go_enter Tryz.func69,Tryz.ntmps69;go_wp2_with fail
 refine(Aw op _).mono ?_;rintro e w1 ⟨rfl,hb⟩;have BK:=Az (Bk hb (Bv w _));have z:w.heap.size<w1.heap.size:=Bl BK.out;have c1:w1.cell? ⟨w.heap.size,1,none⟩=some (.int .i64 d):=(Bc BK.out 1).trans rfl;have c2:w1.cell? ⟨w.heap.size,2,none⟩=some (.int .i64 s):=(Bc BK.out 2).trans rfl;have c3:w1.cell? ⟨w.heap.size,3,none⟩=some (.int .i64 t):=(Bc BK.out 3).trans rfl;have c4:w1.cell? ⟨w.heap.size,4,none⟩=some (.int .i64 u):=(Bc BK.out 4).trans rfl;have c5:w1.cell? ⟨w.heap.size,5,none⟩=some (.int .i64 a):=(Bc BK.out 5).trans rfl;go_wp2_with fail
 refine(An d hd _).mono ?_;rintro e w' ⟨rfl,rfl⟩;go_wp2_with fail
 refine(An s hs _).mono ?_;rintro e w' ⟨rfl,rfl⟩;go_wp2_with fail
 refine(An t ht _).mono ?_;rintro e w' ⟨rfl,rfl⟩;go_wp2_with fail
 refine(An u hu _).mono ?_;rintro e w' ⟨rfl,rfl⟩;go_wp2_with fail
 refine(Jf a ha.out _).mono ?_;rintro e w' ⟨rfl,rfl⟩;go_wp2;go_ret;exact⟨rfl,((Below.refl w.heap.size w).alloc (Nl _) _).trans (hb.mono (by simp))⟩
theorem FG(i:In)(places:Int)(hwk:i.wk)(w:World) :
  Calls Tryz.prog 69 #[i.v,.int .i64 places] w fun e w'=>e=.returned (.bool (AD i places))∧Below w.heap.size w w':=by
 cases i with
 |mk op d s t u a k q =>
  by_cases hn:Aj op=[]
  ·have e:AD ⟨op,d,s,t,u,a,k,q⟩ places=false:=by unfold AD;rw[if_pos hn]
   rw[e];exact IQ op d s t u a k q places w hn
  have hfalse:¬(In.mk op d s t u a k q).K7→AD ⟨op,d,s,t,u,a,k,q⟩ places=false:=fun h=>by
   cases hr:AD ⟨op,d,s,t,u,a,k,q⟩ places with
   |false=>rfl
   |true=>exact absurd (LQ hr) h
  by_cases hd:0≤d∧d≤7;case neg=>rw[hfalse (fun x=>hd x.d)];exact Je op d s t u a k q places w hn hd
  by_cases hs:0≤s∧s≤7;case neg=>rw[hfalse (fun x=>hs x.s)];exact Jg op d s t u a k q places w hn hd hs
  by_cases ht:0≤t∧t≤7;case neg=>rw[hfalse (fun x=>ht x.t)];exact Jh op d s t u a k q places w hn hd hs ht
  by_cases hu:0≤u∧u≤7;case neg=>rw[hfalse (fun x=>hu x.u)];exact Ji op d s t u a k q places w hn hd hs ht hu
  by_cases ha:0≤a∧a≤7;case neg=>rw[hfalse (fun x=>ha x.a)];exact Jj op d s t u a k q places w hn hd hs ht hu ha
  by_cases h1:op=1;case pos=>subst h1;exact Nq d s t u a k q places w hd hs ht hu ha hwk
  by_cases h2:op=2;case pos=>subst h2;exact Nr d s t u a k q places w hd hs ht hu ha hwk
  by_cases h3:op=3;case pos=>subst h3;exact Ns d s t u a k q places w hd hs ht hu ha hwk
  by_cases h4:op=4;case pos=>subst h4;exact Nt d s t u a k q places w hd hs ht hu ha hwk
  by_cases h5:op=5;case pos=>subst h5;exact Nu d s t u a k q places w hd hs ht hu ha hwk
  by_cases h6:op=6;case pos=>subst h6;exact Nv d s t u a k q places w hd hs ht hu ha hwk
  by_cases h7:op=7;case pos=>subst h7;exact Nw d s t u a k q places w hd hs ht hu ha hwk
  by_cases h8:op=8;case pos=>subst h8;exact Nx d s t u a k q places w hd hs ht hu ha hwk
  by_cases h9:op=9;case pos=>subst h9;exact Ny d s t u a k q places w hd hs ht hu ha hwk
  by_cases h10:op=10;case pos=>subst h10;exact LR d s t u a k q places w hd hs ht hu ha hwk
  by_cases h11:op=11;case pos=>subst h11;exact LU d s t u a k q places w hd hs ht hu ha hwk
  by_cases h12:op=12;case pos=>subst h12;exact LV d s t u a k q places w hd hs ht hu ha hwk
  by_cases h13:op=13;case pos=>subst h13;exact LW d s t u a k q places w hd hs ht hu ha hwk
  by_cases h16:op=16;case pos=>subst h16;exact LX d s t u a k q places w hd hs ht hu ha hwk
  by_cases h17:op=17;case pos=>subst h17;exact LY d s t u a k q places w hd hs ht hu ha hwk
  by_cases h18:op=18;case pos=>subst h18;exact LZ d s t u a k q places w hd hs ht hu ha hwk
  by_cases h19:op=19;case pos=>subst h19;exact Ma d s t u a k q places w hd hs ht hu ha hwk
  by_cases h20:op=20;case pos=>subst h20;exact Mb d s t u a k q places w hd hs ht hu ha hwk
  by_cases h21:op=21;case pos=>subst h21;exact Mc d s t u a k q places w hd hs ht hu ha hwk
  by_cases h22:op=22;case pos=>subst h22;exact Md d s t u a k q places w hd hs ht hu ha hwk
  by_cases h23:op=23;case pos=>subst h23;exact Me d s t u a k q places w hd hs ht hu ha hwk
  exfalso;apply hn;unfold Aj;repeat (first |rw[if_neg (by assumption)] |rfl)
theorem SZ{i:In}{places:Int}(h:AN places [68,65,83,87] {i with op:=0}=some In.zero):i.k≤1:=by
 rw[AN,show(((68:UInt8).toNat:Nat):Int)=68 from rfl,EC (j:=1) rfl]at h;by_cases b:({i with op:=0}:In).get 1<0∨7<({i with op:=0}:In).get 1
 ·rw[if_pos b]at h;cases h
 rw[if_neg b]at h;clear b;dsimp only at h;rw[AN,show(((65:UInt8).toNat:Nat):Int)=65 from rfl,EC (j:=5) rfl]at h;by_cases b:(({i with op:=0}:In).put 0 1).get 5<0∨7<(({i with op:=0}:In).put 0 1).get 5
 ·rw[if_pos b]at h;cases h
 rw[if_neg b]at h;clear b;dsimp only at h;rw[AN,show(((83:UInt8).toNat:Nat):Int)=83 from rfl,EC (j:=2) rfl]at h;by_cases b:((({i with op:=0}:In).put 0 1).put 0 5).get 2<0∨7<((({i with op:=0}:In).put 0 1).put 0 5).get 2
 ·rw[if_pos b]at h;cases h
 rw[if_neg b]at h;clear b;dsimp only at h;rw[AN,show(((87:UInt8).toNat:Nat):Int)=87 from rfl,O1]at h
 change (match (if 1<i.k then none else if i.t<0∨7<i.t∨i.q < -1∨(i.q ≠ -1∧places≤i.q) then none else some ({op:=0,d:=0,s:=0,t:=0,u:=i.u,a:=0,k:=0,q:=0}:In)) with |some r'=>AN places [] r' |none=>none)=some In.zero at h
 by_cases b:1<i.k
 ·rw[if_pos b]at h;cases h
 ·omega
theorem Ky(i:In)(h:AD i 1073741824=true)(hwk:i.wk)(w:World) :
  Calls Tryz.prog 118 #[i.v] w fun e w'=>e=.returned (.string ⟨(Bh i).toArray⟩)∧Below w.heap.size w w':=by
 have hf:=I7 h hwk;have hn:=KB (I6 h);have hp:=Mv h;have hr:=Ga h;obtain⟨op,d,s,t,u,a,k,q⟩:=i;dsimp only at hn hp hr;unfold In.v;dsimp only;have hc:op=1∨op=2∨op=3∨op=4∨op=5∨op=6∨op=7∨op=8∨op=9∨op=10∨op=11∨op=12∨op=13∨op=16∨op=17∨op=18∨op=19∨op=20∨op=21∨op=22∨op=23:=by omega
 rcases hc with rfl |rfl |rfl |rfl |rfl |rfl |rfl |rfl |rfl |rfl |rfl |rfl |rfl |rfl |rfl |rfl |rfl |rfl |rfl |rfl |rfl
 ·exact WB d s t u a k q hf w
 ·exact WC d s t u a k q hf w
 ·exact WD d s t u a k q hf w
 ·exact WE d s t u a k q hf w
 ·exact WG d s t u a k q hf w
 ·exact Wh d s t u a k q hf w
 ·exact Wi d s t u a k q hf w
 ·exact Wj d s t u a k q hf (hp (by decide)) w
 ·exact Wk d s t u a k q hf (hp (by decide)) w
 ·exact Vo d s t u a k q hf (hp (by decide)) w
 ·exact Vx d s t u a k q hf w
 ·exact Vy d s t u a k q hf w
 ·exact Vz d s t u a k q hf w
 ·exact V0 d s t u a k q hf w
 ·exact V1 d s t u a k q hf w
 ·exact Vr d s t u a k q hf w
 ·exact Vs d s t u a k q hf w
 ·exact Vt d s t u a k q hf w
 ·have hk1:k≤1:=SZ (i:=⟨21,d,s,t,u,a,k,q⟩) hr;have hk:k=0∨k=1:=by have:=hf.k.1;dsimp only at this;omega
  have hq:=hf.q.1;dsimp only at hq;by_cases h0:0≤q
  ·rcases hk with rfl |rfl
   ·exact Ta d s t u a q hf h0 w
   ·exact Tb d s t u a q hf h0 w
  ·have hq1:q = -1:=by omega
   subst hq1;rcases hk with rfl |rfl
   ·exact Rr d s t u a hf w
   ·exact Rt d s t u a hf w
 ·exact Vu d s t u a k q hf w
 ·exact Vv d s t u a k q hf w
def Kf(n:Nat):Code→Option Code
 |.seq a b=>match Kf n a with
  |some c=>some c
  |none=>Kf n b
 |.cond _ a b=>match Kf n a with
  |some c=>some c
  |none=>Kf n b
 |.block m c=>if m=n then some (.block m c) else Kf n c
 |.loop c=>Kf n c
 |_=>none
noncomputable def PX:Code:=((Tryz.f92.body.bind (Kf 8)).getD .skip)
theorem Us(k x0 x1 x2 x3 y0 y1:Int):Cl 0 k x0 x1 x2 x3 y0 y1=⟨0,0,0,0,0,0,k,0⟩:=by simp[Cl]
theorem U8(k x0 x1 x2 x3 y0 y1:Int):Cl 1 k x0 x1 x2 x3 y0 y1=⟨1,x0,x1,x2,0,0,y0%4294967296,0⟩:=by simp[Cl]
theorem U9(k x0 x1 x2 x3 y0 y1:Int):Cl 2 k x0 x1 x2 x3 y0 y1=⟨2,x0,x1,x2,0,0,k,0⟩:=by simp[Cl]
theorem UA(k x0 x1 x2 x3 y0 y1:Int):Cl 3 k x0 x1 x2 x3 y0 y1=⟨3,x0,x1,x2,0,0,y0%4294967296,0⟩:=by simp[Cl]
theorem UB(k x0 x1 x2 x3 y0 y1:Int):Cl 4 k x0 x1 x2 x3 y0 y1=⟨4,x0,x1,x2,0,0,y0%4294967296,0⟩:=by simp[Cl]
theorem UC(k x0 x1 x2 x3 y0 y1:Int):Cl 5 k x0 x1 x2 x3 y0 y1=⟨5,x0,x1,x2,0,0,y0%4294967296,0⟩:=by simp[Cl]
theorem UD(k x0 x1 x2 x3 y0 y1:Int):Cl 6 k x0 x1 x2 x3 y0 y1=⟨6,x0,x1,x2,0,0,y0%4294967296,0⟩:=by simp[Cl]
theorem UE(k x0 x1 x2 x3 y0 y1:Int):Cl 7 k x0 x1 x2 x3 y0 y1=⟨7,x0,x1,x2,0,0,k,0⟩:=by simp[Cl]
theorem UK(k x0 x1 x2 x3 y0 y1:Int):Cl 8 k x0 x1 x2 x3 y0 y1=⟨8,0,x0,x1,0,0,k,y0⟩:=by simp[Cl]
theorem UL(k x0 x1 x2 x3 y0 y1:Int):Cl 9 k x0 x1 x2 x3 y0 y1=⟨9,0,x0,x1,0,0,k,y0⟩:=by simp[Cl]
theorem TG(k x0 x1 x2 x3 y0 y1:Int):Cl 10 k x0 x1 x2 x3 y0 y1=⟨10,0,x0,x1,0,0,k,y0⟩:=by simp[Cl]
theorem TH(k x0 x1 x2 x3 y0 y1:Int):Cl 11 k x0 x1 x2 x3 y0 y1=⟨11,x0,x1,x2,0,0,k,0⟩:=by simp[Cl]
theorem SF(k x0 x1 x2 x3 y0 y1:Int):Cl 12 k x0 x1 x2 x3 y0 y1=⟨12,0,0,0,0,0,y0%4294967296,0⟩:=by simp[Cl]
theorem SG(k x0 x1 x2 x3 y0 y1:Int):Cl 13 k x0 x1 x2 x3 y0 y1=⟨13,0,0,0,0,0,y0%4294967296,0⟩:=by simp[Cl]
theorem TI(k x0 x1 x2 x3 y0 y1:Int):Cl 16 k x0 x1 x2 x3 y0 y1=⟨16,x0,x1,x2,x3,y0,k,0⟩:=by simp[Cl]
theorem SD(k x0 x1 x2 x3 y0 y1:Int):Cl 17 k x0 x1 x2 x3 y0 y1=⟨17,0,x0,x1,0,y0,k,0⟩:=by simp[Cl]
theorem S9(k x0 x1 x2 x3 y0 y1:Int):Cl 18 k x0 x1 x2 x3 y0 y1=⟨18,x0,x1,x2,x3,y0,k,0⟩:=by simp[Cl]
theorem SA(k x0 x1 x2 x3 y0 y1:Int):Cl 19 k x0 x1 x2 x3 y0 y1=⟨19,x0,x1,x2,x3,y0,k,0⟩:=by simp[Cl]
theorem SB(k x0 x1 x2 x3 y0 y1:Int):Cl 20 k x0 x1 x2 x3 y0 y1=⟨20,x0,x1,x2,x3,y0,y1%4294967296,0⟩:=by simp[Cl]
theorem SC(k x0 x1 x2 x3 y0 y1:Int):Cl 21 k x0 x1 x2 x3 y0 y1=⟨21,x0,x1,x2,x3,y0,k,y1⟩:=by simp[Cl]
theorem TJ(k x0 x1 x2 x3 y0 y1:Int):Cl 22 k x0 x1 x2 x3 y0 y1=⟨22,x0,x1,x2,0,0,k,0⟩:=by simp[Cl]
theorem SE(k x0 x1 x2 x3 y0 y1:Int):Cl 23 k x0 x1 x2 x3 y0 y1=⟨23,0,x0,0,0,0,k,0⟩:=by simp[Cl]
structure Dh (w W:World) (g5:Nat) (i:In) (gw:Nat) (cw:Array Value):Prop where
 b:Below w.heap.size w W
 z:W.heap[w.heap.size]?=some (.cells In.zero.cs 114 (0,0))
 i:W.heap[g5]?=some (.cells i.cs 114 (0,0))
 n:w.heap.size<g5
 r:W.heap[gw]?=some (.cells cw 9 (0,0))
theorem Dh.keep{w W W1:World}{g5 gw:Nat}{i:In}{cw:Array Value}(h:Dh w W g5 i gw cw)(hb:Below W.heap.size W W1):Dh w W1 g5 i gw cw :=
 ⟨h.b.trans (hb.mono h.b.size),Bk hb h.z,Bk hb h.i,h.n,Bk hb h.r⟩
theorem Dh.drew{w W:World}{g5 gw:Nat}{i:In}{cw:Array Value}(h:Dh w W g5 i gw cw):Dh w W.drew g5 i gw cw:=⟨Bd h.b,Be h.z,Be h.i,h.n,Be h.r⟩
theorem Dh.grown{w W W1:World}{g5 gw:Nat}{i:In}{cw:Array Value}{v:Value}{xs:List Int}(h:Dh w W g5 i gw cw)(hr:AS W w.heap.size v xs)(hg:W.grownBy W1 v.ownBlock):Dh w W1 g5 i gw cw :=
 ⟨h.b.grown hg h.b.size (fun k hk=>Ob hr k hk),Bg h.z hg (Oa hr h.z (by decide)),Bg h.i hg (Oa hr h.i (by decide)),h.n,Bg h.r hg (Oa hr h.r (by decide))⟩
theorem Dh.put{w W:World}{g5 gw:Nat}{i:In}{cw:Array Value}(h:Dh w W g5 i gw cw)(j:Nat)(u:Value)(i':In)(he:i'.cs=i.cs.setIfInBounds j u):Dh w (W.setCell ⟨g5,j,none⟩ u) g5 i' gw cw :=
 ⟨h.b.setCell (Nat.le_of_lt h.n) u,Ba h.z (show w.heap.size≠g5 from Nat.ne_of_lt h.n) u,by rw[he];exact Bs h.i j u,h.n,Ba h.r (C0 h.r h.i (by decide)) u⟩
theorem JQ{α:Type}{l:List α}{i:Nat}{o:α}(h:l[i]?=some o):l.toArray[i]?=some o:=by simpa using h
theorem Ek{w W W1:World}{g5 gw:Nat}{i:In}{cw:Array Value}{x:Value}(hb:Below W.heap.size W W1)(h:Ag (Dh w W g5 i gw cw)∧W.cell? ⟨gw,0,none⟩=some x):Ag (Dh w W1 g5 i gw cw)∧W1.cell? ⟨gw,0,none⟩=some x :=
 ⟨⟨h.1.out.keep hb⟩,(Bc (h.1.out.keep hb).r 0).trans ((Bc h.1.out.r 0).symm.trans h.2)⟩
theorem JR{n:Nat}{v:Int}{l:List Int}(h:l.length<n):Es n v (l++[v])=Es n v l:=by
 unfold Es;rw[List.length_append,List.length_singleton,List.append_assoc,show n-l.length=(n-(l.length+1))+1 by omega,List.replicate_succ];rfl
theorem JS{n:Nat}{v:Int}{l:List Int}(h:n≤l.length):Es n v l=l:=by
 unfold Es;rw[show n-l.length=0 by omega];simp
def sliceLen:Value→Nat
 |.slice _ n _=>n
 |_=>0
theorem VL{W:World}{g7 g5:Nat}{x0 x1 x2 x3:Int}(hne:g7≠g5)(j:Nat)(u:Value)
  (h:W.cell? ⟨g7,0,none⟩=some (.int .i64 x0)∧W.cell? ⟨g7,1,none⟩=some (.int .i64 x1)∧W.cell? ⟨g7,2,none⟩=some (.int .i64 x2)∧W.cell? ⟨g7,3,none⟩=some (.int .i64 x3)) :
  (W.setCell ⟨g5,j,none⟩ u).cell? ⟨g7,0,none⟩=some (.int .i64 x0)∧(W.setCell ⟨g5,j,none⟩ u).cell? ⟨g7,1,none⟩=some (.int .i64 x1)∧(W.setCell ⟨g5,j,none⟩ u).cell? ⟨g7,2,none⟩=some (.int .i64 x2)∧(W.setCell ⟨g5,j,none⟩ u).cell? ⟨g7,3,none⟩=some (.int .i64 x3):=by
 have e:(W.setCell ⟨g5,j,none⟩ u).heap[g7]?=W.heap[g7]?:=Below.heap_setCell W _ u g7 hne;exact⟨(World.cell?_of_block (w:=W) (a:=⟨g7,0,none⟩) e).trans h.1,(World.cell?_of_block (w:=W) (a:=⟨g7,1,none⟩) e).trans h.2.1,(World.cell?_of_block (w:=W) (a:=⟨g7,2,none⟩) e).trans h.2.2.1,(World.cell?_of_block (w:=W) (a:=⟨g7,3,none⟩) e).trans h.2.2.2⟩
theorem Da{W:World}{g7 g5:Nat}{x0 x1 x2 x3:Int}(hne:g7≠g5)(j:Nat)(u:Value)
 (h:W.drew.cell? ⟨g7,0,none⟩=some (.int .i64 x0)∧W.drew.cell? ⟨g7,1,none⟩=some (.int .i64 x1)∧W.drew.cell? ⟨g7,2,none⟩=some (.int .i64 x2)∧W.drew.cell? ⟨g7,3,none⟩=some (.int .i64 x3)) :
 (W.setCell ⟨g5,j,none⟩ u).drew.cell? ⟨g7,0,none⟩=some (.int .i64 x0)∧(W.setCell ⟨g5,j,none⟩ u).drew.cell? ⟨g7,1,none⟩=some (.int .i64 x1)∧(W.setCell ⟨g5,j,none⟩ u).drew.cell? ⟨g7,2,none⟩=some (.int .i64 x2)∧(W.setCell ⟨g5,j,none⟩ u).drew.cell? ⟨g7,3,none⟩=some (.int .i64 x3):=VL (W:=W) hne j u h
theorem Fy(w:List UInt8):∀ (n:Nat) (op acc:Int),Fk w n op acc=acc∨Aj (Fk w n op acc)≠[]
 |0,op,acc=>.inl rfl
 |n+1,op,acc=>by
  rw[Fk];by_cases h:Aj op≠[]∧Aj op=w
  ·rw[if_pos h];rcases Fy w n (op+1) op with h1 |h1
   ·rw[h1];exact .inr h.1
   ·exact .inr h1
  ·rw[if_neg h];exact Fy w n (op+1) acc
theorem MY(w:List UInt8):GH w=0∨(1≤GH w∧GH w≤13)∨(16≤GH w∧GH w≤23):=by
 rcases Fy w 23 1 0 with h |h
 ·exact .inl h
 ·exact .inr (KB h)
theorem Dh.BG{w W:World}{g5 gw:Nat}{i:In}{cw:Array Value}(h:Dh w W g5 i gw cw)(j:Nat)(h1:1≤j)(h5:j≤5)(v:Int):Dh w (W.setCell ⟨g5,j,none⟩ (.int .i64 v)) g5 (i.put v j) gw cw :=
 h.put j _ _ (In.N3 _ _ _ h1 h5).symm
theorem Dh.M3{w W:World}{g5 gw:Nat}{i:In}{cw:Array Value}(h:Dh w W g5 i gw cw)(v:Int):Dh w (W.setCell ⟨g5,6,none⟩ (.int .u32 v)) g5 {i with k:=v} gw cw:=h.put 6 _ _ rfl
theorem Dh.Pb{w W:World}{g5 gw:Nat}{i:In}{cw:Array Value}(h:Dh w W g5 i gw cw)(v:Int):Dh w (W.setCell ⟨g5,7,none⟩ (.int .i64 v)) g5 {i with q:=v} gw cw:=h.put 7 _ _ rfl
theorem T5(op k x0 x1 x2 x3 y0 y1:Int)(hk:k=0∨k=1):(Cl op k x0 x1 x2 x3 y0 y1).wk:=by
 have hk':0≤k∧k≤4294967295:=by omega
 have h0:0≤y0%4294967296∧y0%4294967296≤4294967295:=by omega
 have h1:0≤y1%4294967296∧y1%4294967296≤4294967295:=by omega
 unfold Cl In.wk;repeat (first |split |assumption)
theorem RP(g m c:Nat)(hc:m+1≤c):∃ (A':Option Addr) (c':Nat),(∀ W:World,(Instr.slice 108 (.slice (some ⟨g,0,none⟩) (m+1) c) (some (.int .i64 1)) none none).run Tryz.prog W=.ok (.slice A' m c') W)∧(0<m→A'=some ⟨g,1,none⟩):=by
 refine⟨if c=1 then some ⟨g,0,none⟩ else some ⟨g,1,none⟩,c-1,fun W=>?_,fun h=>if_neg (by omega)⟩;obtain⟨i9,hi,hz0,hz1,hz2⟩:=info_parts FI;have hel:Tryz.prog.elem 108=9:=by simp[Program.elem,Tryz.underlying108]
 have hu:Tryz.prog.underlying 108=some (.slice (Tryz.prog.elem 108)):=by rw[hel];exact Tryz.underlying108
 rw[run_slice_l W 108 (some ⟨g,0,none⟩) (m+1) c hu .i64 1 (by omega) (by omega),hel];by_cases h1:c=1
 ·subst h1;have:m=0:=by omega
  subst this;simp[sizeOf,typeInfo,hi,hz1,sliced,Result.andThen]
 ·rw[if_neg h1];simp[sizeOf,typeInfo,hi,hz1,sliced,Result.andThen,h1,Addr.add]
end
end Go.Proofs.YtjjpiefgdggghaaGreatDoor

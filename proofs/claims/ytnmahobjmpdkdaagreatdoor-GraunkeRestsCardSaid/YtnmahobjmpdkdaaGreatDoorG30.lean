/- Parts: RefRight, RefText, RefParseKit, RefSwitchKit, RefSwitchA. -/
import Derived.Test.YtnmahobjmpdkdaaGreatDoorG02
import Derived.Test.YtnmahobjmpdkdaaGreatDoorG12
import Derived.Test.YtnmahobjmpdkdaaGreatDoorG13
import Derived.Test.YtnmahobjmpdkdaaGreatDoorG29
import Derived.Test.YtnmahobjmpdkdaaGreatDoorG04
import Derived.Test.YtnmahobjmpdkdaaGreatDoorG16
import Derived.Test.YtnmahobjmpdkdaaGreatDoorG17
import Derived.Deep.RegionHeld3
import Derived.Test.YtnmahobjmpdkdaaGreatDoorG03
import Derived.Test.YtnmahobjmpdkdaaGreatDoorG05
import Derived.Test.YtnmahobjmpdkdaaGreatDoorG11
set_option linter.unusedVariables false
set_option linter.unusedSimpArgs false
set_option maxRecDepth 100000
set_option maxHeartbeats 40000000
namespace Go.Proofs.YtnmahobjmpdkdaaGreatDoor
section
open Go.RowKit Go.Proofs.YtnmahobjmpdkdaaGreatDoorW.PrintWords
structure In.Nn (i:In):Prop where
 d:0≤i.d∧i.d≤7
 s:0≤i.s∧i.s≤7
 t:0≤i.t∧i.t≤7
 u:0≤i.u∧i.u≤7
 a:0≤i.a∧i.a≤7
theorem Rt{places s:Int}{r r':In}(h:BN places s r=some r')(hr:r'.Nn):r.Nn:=by
 unfold BN at h;obtain⟨h1,h2,h3,h4,h5⟩:=hr;cases hf:AE s with
 |some j =>
  rw[hf]at h;dsimp only at h;by_cases hb:r.get j<0∨7<r.get j
  ·rw[if_pos hb]at h;cases h
  rw[if_neg hb]at h;cases h;have hb':0≤r.get j∧r.get j≤7:=by omega
  clear hb;rcases CP hf with ⟨_,rfl⟩ |⟨_,rfl⟩ |⟨_,rfl⟩ |⟨_,rfl⟩ |⟨_,rfl⟩
  all_goals (simp only[In.put,In.get]at *;constructor<;>assumption)
 |none =>
  rw[hf]at h;dsimp only at h;by_cases c1:s=75
  ·rw[if_pos c1]at h;cases h;constructor<;>assumption
  rw[if_neg c1]at h;by_cases c2:s=66
  ·rw[if_pos c2]at h;by_cases b:31<r.k
   ·rw[if_pos b]at h;cases h
   rw[if_neg b]at h;cases h;constructor<;>assumption
  rw[if_neg c2]at h;by_cases c3:s=77
  ·rw[if_pos c3]at h;by_cases b:r.k<1∨4<r.k
   ·rw[if_pos b]at h;cases h
   rw[if_neg b]at h;cases h;constructor<;>assumption
  rw[if_neg c3]at h;by_cases c4:s=79
  ·rw[if_pos c4]at h;by_cases b:3<r.k
   ·rw[if_pos b]at h;cases h
   rw[if_neg b]at h;cases h;constructor<;>assumption
  rw[if_neg c4]at h;by_cases c5:s=87
  ·rw[if_pos c5]at h;by_cases b:1<r.k
   ·rw[if_pos b]at h;cases h
   rw[if_neg b]at h;by_cases b2:r.t<0∨7<r.t∨r.q < -1∨(r.q ≠ -1∧places≤r.q)
   ·rw[if_pos b2]at h;cases h
   rw[if_neg b2]at h;cases h;exact⟨h1,h2,by omega,h4,h5⟩
  rw[if_neg c5]at h;by_cases c6:s=80
  ·rw[if_pos c6]at h;by_cases b:r.q<0∨places≤r.q
   ·rw[if_pos b]at h;cases h
   rw[if_neg b]at h;cases h;exact⟨h1,h2,h3,h4,h5⟩
  rw[if_neg c6]at h;cases h;constructor<;>assumption
theorem LU{places:Int}:∀ (l:List UInt8) (r r':In),Bh places l r=some r'→r'.Nn→r.Nn
 |[],r,r',h,hr=>by cases h;exact hr
 |c::l,r,r',h,hr=>by
  unfold Bh at h;cases hs:BN places (c.toNat:Int) r with
  |none=>rw[hs]at h;cases h
  |some r1 =>
   rw[hs]at h;exact Rt hs (LU l r1 r' h hr)
theorem O7{i:In}{places:Int}(h:AN i places=true):Ak i.op≠[]:=by
 intro e;unfold AN at h;rw[if_pos e]at h;cases h
theorem PY{i:In}{places:Int}(h:AN i places=true):i.Nn:=by
 have hn:=O7 h;rw[BA _ _ hn]at h;cases hf:Bh places (Br i.op) {i with op:=0} with
 |none=>rw[hf]at h;cases h
 |some r =>
  rw[hf]at h;have e:r=In.zero:=of_decide_eq_true h;subst e;have:=LU _ _ _ hf ⟨by decide,by decide,by decide,by decide,by decide⟩;exact⟨this.d,this.s,this.t,this.u,this.a⟩
theorem K3(op d s t u a k q places:Int)(w:World)(hn:Ak op=[]) :
  Calls Tryz.prog 64 #[.agg #[.int .i64 op,.int .i64 d,.int .i64 s,.int .i64 t,.int .i64 u,.int .i64 a,.int .u32 k,.int .i64 q],.int .i64 places] w fun e w'=>e=.returned (.bool false)∧Below w.heap.size w w':=by
 replace hn:=Az hn;go_enter Tryz.func64,Tryz.ntmps64;go_wp2_with fail
 refine(AA op _).mono ?_;rintro e w1 ⟨rfl,hb⟩;rw[hn.out];go_wp2;go_ret;exact⟨rfl,((Below.refl w.heap.size w).alloc (Nl _) _).trans (hb.mono (by simp))⟩
theorem LV(op d s t u a k q places:Int)(w:World)(hn:Ak op≠[])(hd:¬(0≤d∧d≤7)) :
  Calls Tryz.prog 64 #[.agg #[.int .i64 op,.int .i64 d,.int .i64 s,.int .i64 t,.int .i64 u,.int .i64 a,.int .u32 k,.int .i64 q],.int .i64 places] w fun e w'=>e=.returned (.bool false)∧Below w.heap.size w w':=by
 have hne:(Ak op).isEmpty=false:=by cases h:Ak op<;>simp_all
 clear hn;replace hd:=Az hd;go_enter Tryz.func64,Tryz.ntmps64;go_wp2_with fail
 refine(AA op _).mono ?_;rintro e w1 ⟨rfl,hb⟩;have BK:=Az (Bk hb (Bv w _));have z:w.heap.size<w1.heap.size:=Bl BK.out;have c1:w1.cell? ⟨w.heap.size,1,none⟩=some (.int .i64 d):=(Bc BK.out 1).trans rfl;go_wp2_with fail
 refine(LG d hd.out _).mono ?_;rintro e w' ⟨rfl,rfl⟩;go_wp2;go_ret;exact⟨rfl,((Below.refl w.heap.size w).alloc (Nl _) _).trans (hb.mono (by simp))⟩
theorem LW(op d s t u a k q places:Int)(w:World)(hn:Ak op≠[])(hd:0≤d∧d≤7)(hs:¬(0≤s∧s≤7)) :
  Calls Tryz.prog 64 #[.agg #[.int .i64 op,.int .i64 d,.int .i64 s,.int .i64 t,.int .i64 u,.int .i64 a,.int .u32 k,.int .i64 q],.int .i64 places] w fun e w'=>e=.returned (.bool false)∧Below w.heap.size w w':=by
 have hne:(Ak op).isEmpty=false:=by cases h:Ak op<;>simp_all
 clear hn;replace hs:=Az hs;go_enter Tryz.func64,Tryz.ntmps64;go_wp2_with fail
 refine(AA op _).mono ?_;rintro e w1 ⟨rfl,hb⟩;have BK:=Az (Bk hb (Bv w _));have z:w.heap.size<w1.heap.size:=Bl BK.out;have c1:w1.cell? ⟨w.heap.size,1,none⟩=some (.int .i64 d):=(Bc BK.out 1).trans rfl;have c2:w1.cell? ⟨w.heap.size,2,none⟩=some (.int .i64 s):=(Bc BK.out 2).trans rfl;go_wp2_with fail
 refine(At d hd _).mono ?_;rintro e w' ⟨rfl,rfl⟩;go_wp2_with fail
 refine(LG s hs.out _).mono ?_;rintro e w' ⟨rfl,rfl⟩;go_wp2;go_ret;exact⟨rfl,((Below.refl w.heap.size w).alloc (Nl _) _).trans (hb.mono (by simp))⟩
theorem LX(op d s t u a k q places:Int)(w:World)(hn:Ak op≠[])(hd:0≤d∧d≤7)(hs:0≤s∧s≤7)(ht:¬(0≤t∧t≤7)) :
  Calls Tryz.prog 64 #[.agg #[.int .i64 op,.int .i64 d,.int .i64 s,.int .i64 t,.int .i64 u,.int .i64 a,.int .u32 k,.int .i64 q],.int .i64 places] w fun e w'=>e=.returned (.bool false)∧Below w.heap.size w w':=by
 have hne:(Ak op).isEmpty=false:=by cases h:Ak op<;>simp_all
 clear hn;replace ht:=Az ht;go_enter Tryz.func64,Tryz.ntmps64;go_wp2_with fail
 refine(AA op _).mono ?_;rintro e w1 ⟨rfl,hb⟩;have BK:=Az (Bk hb (Bv w _));have z:w.heap.size<w1.heap.size:=Bl BK.out;have c1:w1.cell? ⟨w.heap.size,1,none⟩=some (.int .i64 d):=(Bc BK.out 1).trans rfl;have c2:w1.cell? ⟨w.heap.size,2,none⟩=some (.int .i64 s):=(Bc BK.out 2).trans rfl;have c3:w1.cell? ⟨w.heap.size,3,none⟩=some (.int .i64 t):=(Bc BK.out 3).trans rfl;go_wp2_with fail
 refine(At d hd _).mono ?_;rintro e w' ⟨rfl,rfl⟩;go_wp2_with fail
 refine(At s hs _).mono ?_;rintro e w' ⟨rfl,rfl⟩;go_wp2_with fail
 refine(LG t ht.out _).mono ?_;rintro e w' ⟨rfl,rfl⟩;go_wp2;go_ret;exact⟨rfl,((Below.refl w.heap.size w).alloc (Nl _) _).trans (hb.mono (by simp))⟩
theorem LY(op d s t u a k q places:Int)(w:World)(hn:Ak op≠[])(hd:0≤d∧d≤7)(hs:0≤s∧s≤7)(ht:0≤t∧t≤7)(hu:¬(0≤u∧u≤7)) :
  Calls Tryz.prog 64 #[.agg #[.int .i64 op,.int .i64 d,.int .i64 s,.int .i64 t,.int .i64 u,.int .i64 a,.int .u32 k,.int .i64 q],.int .i64 places] w fun e w'=>e=.returned (.bool false)∧Below w.heap.size w w':=by
 have hne:(Ak op).isEmpty=false:=by cases h:Ak op<;>simp_all
 clear hn;replace hu:=Az hu;go_enter Tryz.func64,Tryz.ntmps64;go_wp2_with fail
 refine(AA op _).mono ?_;rintro e w1 ⟨rfl,hb⟩;have BK:=Az (Bk hb (Bv w _));have z:w.heap.size<w1.heap.size:=Bl BK.out;have c1:w1.cell? ⟨w.heap.size,1,none⟩=some (.int .i64 d):=(Bc BK.out 1).trans rfl;have c2:w1.cell? ⟨w.heap.size,2,none⟩=some (.int .i64 s):=(Bc BK.out 2).trans rfl;have c3:w1.cell? ⟨w.heap.size,3,none⟩=some (.int .i64 t):=(Bc BK.out 3).trans rfl;have c4:w1.cell? ⟨w.heap.size,4,none⟩=some (.int .i64 u):=(Bc BK.out 4).trans rfl;go_wp2_with fail
 refine(At d hd _).mono ?_;rintro e w' ⟨rfl,rfl⟩;go_wp2_with fail
 refine(At s hs _).mono ?_;rintro e w' ⟨rfl,rfl⟩;go_wp2_with fail
 refine(At t ht _).mono ?_;rintro e w' ⟨rfl,rfl⟩;go_wp2_with fail
 refine(LG u hu.out _).mono ?_;rintro e w' ⟨rfl,rfl⟩;go_wp2;go_ret;exact⟨rfl,((Below.refl w.heap.size w).alloc (Nl _) _).trans (hb.mono (by simp))⟩
theorem LZ(op d s t u a k q places:Int)(w:World)(hn:Ak op≠[])(hd:0≤d∧d≤7)(hs:0≤s∧s≤7)(ht:0≤t∧t≤7)(hu:0≤u∧u≤7)(ha:¬(0≤a∧a≤7)) :
  Calls Tryz.prog 64 #[.agg #[.int .i64 op,.int .i64 d,.int .i64 s,.int .i64 t,.int .i64 u,.int .i64 a,.int .u32 k,.int .i64 q],.int .i64 places] w fun e w'=>e=.returned (.bool false)∧Below w.heap.size w w':=by
 have hne:(Ak op).isEmpty=false:=by cases h:Ak op<;>simp_all
 clear hn;replace ha:=Az ha;go_enter Tryz.func64,Tryz.ntmps64;go_wp2_with fail
 refine(AA op _).mono ?_;rintro e w1 ⟨rfl,hb⟩;have BK:=Az (Bk hb (Bv w _));have z:w.heap.size<w1.heap.size:=Bl BK.out;have c1:w1.cell? ⟨w.heap.size,1,none⟩=some (.int .i64 d):=(Bc BK.out 1).trans rfl;have c2:w1.cell? ⟨w.heap.size,2,none⟩=some (.int .i64 s):=(Bc BK.out 2).trans rfl;have c3:w1.cell? ⟨w.heap.size,3,none⟩=some (.int .i64 t):=(Bc BK.out 3).trans rfl;have c4:w1.cell? ⟨w.heap.size,4,none⟩=some (.int .i64 u):=(Bc BK.out 4).trans rfl;have c5:w1.cell? ⟨w.heap.size,5,none⟩=some (.int .i64 a):=(Bc BK.out 5).trans rfl;go_wp2_with fail
 refine(At d hd _).mono ?_;rintro e w' ⟨rfl,rfl⟩;go_wp2_with fail
 refine(At s hs _).mono ?_;rintro e w' ⟨rfl,rfl⟩;go_wp2_with fail
 refine(At t ht _).mono ?_;rintro e w' ⟨rfl,rfl⟩;go_wp2_with fail
 refine(At u hu _).mono ?_;rintro e w' ⟨rfl,rfl⟩;go_wp2_with fail
 refine(LG a ha.out _).mono ?_;rintro e w' ⟨rfl,rfl⟩;go_wp2;go_ret;exact⟨rfl,((Below.refl w.heap.size w).alloc (Nl _) _).trans (hb.mono (by simp))⟩
theorem Ht(i:In)(places:Int)(hwk:i.wk)(w:World) :
  Calls Tryz.prog 64 #[i.v,.int .i64 places] w fun e w'=>e=.returned (.bool (AN i places))∧Below w.heap.size w w':=by
 cases i with
 |mk op d s t u a k q =>
  by_cases hn:Ak op=[]
  ·have e:AN ⟨op,d,s,t,u,a,k,q⟩ places=false:=by unfold AN;rw[if_pos hn]
   rw[e];exact K3 op d s t u a k q places w hn
  have hfalse:¬(In.mk op d s t u a k q).Nn→AN ⟨op,d,s,t,u,a,k,q⟩ places=false:=fun h=>by
   cases hr:AN ⟨op,d,s,t,u,a,k,q⟩ places with
   |false=>rfl
   |true=>exact absurd (PY hr) h
  by_cases hd:0≤d∧d≤7;case neg=>rw[hfalse (fun x=>hd x.d)];exact LV op d s t u a k q places w hn hd
  by_cases hs:0≤s∧s≤7;case neg=>rw[hfalse (fun x=>hs x.s)];exact LW op d s t u a k q places w hn hd hs
  by_cases ht:0≤t∧t≤7;case neg=>rw[hfalse (fun x=>ht x.t)];exact LX op d s t u a k q places w hn hd hs ht
  by_cases hu:0≤u∧u≤7;case neg=>rw[hfalse (fun x=>hu x.u)];exact LY op d s t u a k q places w hn hd hs ht hu
  by_cases ha:0≤a∧a≤7;case neg=>rw[hfalse (fun x=>ha x.a)];exact LZ op d s t u a k q places w hn hd hs ht hu ha
  by_cases h1:op=1;case pos=>subst h1;exact QT d s t u a k q places w hd hs ht hu ha hwk
  by_cases h2:op=2;case pos=>subst h2;exact QU d s t u a k q places w hd hs ht hu ha hwk
  by_cases h3:op=3;case pos=>subst h3;exact QV d s t u a k q places w hd hs ht hu ha hwk
  by_cases h4:op=4;case pos=>subst h4;exact QW d s t u a k q places w hd hs ht hu ha hwk
  by_cases h5:op=5;case pos=>subst h5;exact QX d s t u a k q places w hd hs ht hu ha hwk
  by_cases h6:op=6;case pos=>subst h6;exact QY d s t u a k q places w hd hs ht hu ha hwk
  by_cases h7:op=7;case pos=>subst h7;exact QZ d s t u a k q places w hd hs ht hu ha hwk
  by_cases h8:op=8;case pos=>subst h8;exact Qs d s t u a k q places w hd hs ht hu ha hwk
  by_cases h9:op=9;case pos=>subst h9;exact Qt d s t u a k q places w hd hs ht hu ha hwk
  by_cases h10:op=10;case pos=>subst h10;exact ON d s t u a k q places w hd hs ht hu ha hwk
  by_cases h11:op=11;case pos=>subst h11;exact OO d s t u a k q places w hd hs ht hu ha hwk
  by_cases h12:op=12;case pos=>subst h12;exact OP d s t u a k q places w hd hs ht hu ha hwk
  by_cases h13:op=13;case pos=>subst h13;exact OQ d s t u a k q places w hd hs ht hu ha hwk
  by_cases h16:op=16;case pos=>subst h16;exact PL d s t u a k q places w hd hs ht hu ha hwk
  by_cases h17:op=17;case pos=>subst h17;exact PM d s t u a k q places w hd hs ht hu ha hwk
  by_cases h18:op=18;case pos=>subst h18;exact PN d s t u a k q places w hd hs ht hu ha hwk
  by_cases h19:op=19;case pos=>subst h19;exact PD d s t u a k q places w hd hs ht hu ha hwk
  by_cases h20:op=20;case pos=>subst h20;exact PO d s t u a k q places w hd hs ht hu ha hwk
  by_cases h21:op=21;case pos=>subst h21;exact PE d s t u a k q places w hd hs ht hu ha hwk
  by_cases h22:op=22;case pos=>subst h22;exact OR d s t u a k q places w hd hs ht hu ha hwk
  by_cases h23:op=23;case pos=>subst h23;exact OS d s t u a k q places w hd hs ht hu ha hwk
  exfalso;apply hn;unfold Ak;repeat (first |rw[if_neg (by assumption)] |rfl)
theorem Xp{i:In}{places:Int}(h:Bh places [68,65,83,87] {i with op:=0}=some In.zero):i.k≤1:=by
 rw[Bh,show(((68:UInt8).toNat:Nat):Int)=68 from rfl,FE (j:=1) rfl]at h;by_cases b:({i with op:=0}:In).get 1<0∨7<({i with op:=0}:In).get 1
 ·rw[if_pos b]at h;cases h
 rw[if_neg b]at h;clear b;dsimp only at h;rw[Bh,show(((65:UInt8).toNat:Nat):Int)=65 from rfl,FE (j:=5) rfl]at h;by_cases b:(({i with op:=0}:In).put 0 1).get 5<0∨7<(({i with op:=0}:In).put 0 1).get 5
 ·rw[if_pos b]at h;cases h
 rw[if_neg b]at h;clear b;dsimp only at h;rw[Bh,show(((83:UInt8).toNat:Nat):Int)=83 from rfl,FE (j:=2) rfl]at h;by_cases b:((({i with op:=0}:In).put 0 1).put 0 5).get 2<0∨7<((({i with op:=0}:In).put 0 1).put 0 5).get 2
 ·rw[if_pos b]at h;cases h
 rw[if_neg b]at h;clear b;dsimp only at h;rw[Bh,show(((87:UInt8).toNat:Nat):Int)=87 from rfl,RM]at h
 change (match (if 1<i.k then none else if i.t<0∨7<i.t∨i.q < -1∨(i.q ≠ -1∧places≤i.q) then none else some ({op:=0,d:=0,s:=0,t:=0,u:=i.u,a:=0,k:=0,q:=0}:In)) with |some r'=>Bh places [] r' |none=>none)=some In.zero at h
 by_cases b:1<i.k
 ·rw[if_pos b]at h;cases h
 ·omega
theorem MA(i:In)(h:AN i 1073741824=true)(hwk:i.wk)(w:World) :
  Calls Tryz.prog 92 #[i.v] w fun e w'=>e=.returned (.string ⟨(Bz i).toArray⟩)∧Below w.heap.size w w':=by
 have hf:=JV h hwk;have hn:=MM (JU h);have hp:=Pm h;have hr:=Hf h;obtain⟨op,d,s,t,u,a,k,q⟩:=i;dsimp only at hn hp hr;unfold In.v;dsimp only;have hc:op=1∨op=2∨op=3∨op=4∨op=5∨op=6∨op=7∨op=8∨op=9∨op=10∨op=11∨op=12∨op=13∨op=16∨op=17∨op=18∨op=19∨op=20∨op=21∨op=22∨op=23:=by omega
 rcases hc with rfl |rfl |rfl |rfl |rfl |rfl |rfl |rfl |rfl |rfl |rfl |rfl |rfl |rfl |rfl |rfl |rfl |rfl |rfl |rfl |rfl
 ·exact Aam d s t u a k q hf w
 ·exact Aan d s t u a k q hf w
 ·exact Aao d s t u a k q hf w
 ·exact Aap d s t u a k q hf w
 ·exact Aaq d s t u a k q hf w
 ·exact Aa8 d s t u a k q hf w
 ·exact Aa9 d s t u a k q hf w
 ·exact AaA d s t u a k q hf (hp (by decide)) w
 ·exact AaB d s t u a k q hf (hp (by decide)) w
 ·exact ZA d s t u a k q hf (hp (by decide)) w
 ·exact ZB d s t u a k q hf w
 ·exact ZC d s t u a k q hf w
 ·exact ZD d s t u a k q hf w
 ·exact ZE d s t u a k q hf w
 ·exact ZF d s t u a k q hf w
 ·exact Z4 d s t u a k q hf w
 ·exact Z5 d s t u a k q hf w
 ·exact Z6 d s t u a k q hf w
 ·have hk1:k≤1:=Xp (i:=⟨21,d,s,t,u,a,k,q⟩) hr;have hk:k=0∨k=1:=by have:=hf.k.1;dsimp only at this;omega
  have hq:=hf.q.1;dsimp only at hq;by_cases h0:0≤q
  ·rcases hk with rfl |rfl
   ·exact Xq d s t u a q hf h0 w
   ·exact Xr d s t u a q hf h0 w
  ·have hq1:q = -1:=by omega
   subst hq1;rcases hk with rfl |rfl
   ·exact Vc d s t u a hf w
   ·exact Vd d s t u a hf w
 ·exact Z7 d s t u a k q hf w
 ·exact Z8 d s t u a k q hf w
def KS(n:Nat):Code→Option Code
 |.seq a b=>match KS n a with
  |some c=>some c
  |none=>KS n b
 |.cond _ a b=>match KS n a with
  |some c=>some c
  |none=>KS n b
 |.block m c=>if m=n then some (.block m c) else KS n c
 |.loop c=>KS n c
 |_=>none
noncomputable def S7:Code:=((Tryz.f73.body.bind (KS 8)).getD .skip)
theorem Yi(k x0 x1 x2 x3 y0 y1:Int):C6 0 k x0 x1 x2 x3 y0 y1=⟨0,0,0,0,0,0,k,0⟩:=by simp[C6]
theorem Ym(k x0 x1 x2 x3 y0 y1:Int):C6 1 k x0 x1 x2 x3 y0 y1=⟨1,x0,x1,x2,0,0,y0%4294967296,0⟩:=by simp[C6]
theorem Yn(k x0 x1 x2 x3 y0 y1:Int):C6 2 k x0 x1 x2 x3 y0 y1=⟨2,x0,x1,x2,0,0,k,0⟩:=by simp[C6]
theorem Yo(k x0 x1 x2 x3 y0 y1:Int):C6 3 k x0 x1 x2 x3 y0 y1=⟨3,x0,x1,x2,0,0,y0%4294967296,0⟩:=by simp[C6]
theorem Yp(k x0 x1 x2 x3 y0 y1:Int):C6 4 k x0 x1 x2 x3 y0 y1=⟨4,x0,x1,x2,0,0,y0%4294967296,0⟩:=by simp[C6]
theorem Yq(k x0 x1 x2 x3 y0 y1:Int):C6 5 k x0 x1 x2 x3 y0 y1=⟨5,x0,x1,x2,0,0,y0%4294967296,0⟩:=by simp[C6]
theorem Yr(k x0 x1 x2 x3 y0 y1:Int):C6 6 k x0 x1 x2 x3 y0 y1=⟨6,x0,x1,x2,0,0,y0%4294967296,0⟩:=by simp[C6]
theorem Ys(k x0 x1 x2 x3 y0 y1:Int):C6 7 k x0 x1 x2 x3 y0 y1=⟨7,x0,x1,x2,0,0,k,0⟩:=by simp[C6]
theorem Yt(k x0 x1 x2 x3 y0 y1:Int):C6 8 k x0 x1 x2 x3 y0 y1=⟨8,0,x0,x1,0,0,k,y0⟩:=by simp[C6]
theorem Yu(k x0 x1 x2 x3 y0 y1:Int):C6 9 k x0 x1 x2 x3 y0 y1=⟨9,0,x0,x1,0,0,k,y0⟩:=by simp[C6]
theorem Wt(k x0 x1 x2 x3 y0 y1:Int):C6 10 k x0 x1 x2 x3 y0 y1=⟨10,0,x0,x1,0,0,k,y0⟩:=by simp[C6]
theorem Wu(k x0 x1 x2 x3 y0 y1:Int):C6 11 k x0 x1 x2 x3 y0 y1=⟨11,x0,x1,x2,0,0,k,0⟩:=by simp[C6]
theorem Wn(k x0 x1 x2 x3 y0 y1:Int):C6 12 k x0 x1 x2 x3 y0 y1=⟨12,0,0,0,0,0,y0%4294967296,0⟩:=by simp[C6]
theorem Wo(k x0 x1 x2 x3 y0 y1:Int):C6 13 k x0 x1 x2 x3 y0 y1=⟨13,0,0,0,0,0,y0%4294967296,0⟩:=by simp[C6]
theorem Wv(k x0 x1 x2 x3 y0 y1:Int):C6 16 k x0 x1 x2 x3 y0 y1=⟨16,x0,x1,x2,x3,y0,k,0⟩:=by simp[C6]
theorem Wl(k x0 x1 x2 x3 y0 y1:Int):C6 17 k x0 x1 x2 x3 y0 y1=⟨17,0,x0,x1,0,y0,k,0⟩:=by simp[C6]
theorem Wh(k x0 x1 x2 x3 y0 y1:Int):C6 18 k x0 x1 x2 x3 y0 y1=⟨18,x0,x1,x2,x3,y0,k,0⟩:=by simp[C6]
theorem Wi(k x0 x1 x2 x3 y0 y1:Int):C6 19 k x0 x1 x2 x3 y0 y1=⟨19,x0,x1,x2,x3,y0,k,0⟩:=by simp[C6]
theorem Wj(k x0 x1 x2 x3 y0 y1:Int):C6 20 k x0 x1 x2 x3 y0 y1=⟨20,x0,x1,x2,x3,y0,y1%4294967296,0⟩:=by simp[C6]
theorem Wk(k x0 x1 x2 x3 y0 y1:Int):C6 21 k x0 x1 x2 x3 y0 y1=⟨21,x0,x1,x2,x3,y0,k,y1⟩:=by simp[C6]
theorem Ww(k x0 x1 x2 x3 y0 y1:Int):C6 22 k x0 x1 x2 x3 y0 y1=⟨22,x0,x1,x2,0,0,k,0⟩:=by simp[C6]
theorem Wm(k x0 x1 x2 x3 y0 y1:Int):C6 23 k x0 x1 x2 x3 y0 y1=⟨23,0,x0,0,0,0,k,0⟩:=by simp[C6]
structure D5 (w W:World) (g5:Nat) (i:In) (gw:Nat) (cw:Array Value):Prop where
 b:Below w.heap.size w W
 z:W.heap[w.heap.size]?=some (.cells In.zero.cs 90 (0,0))
 i:W.heap[g5]?=some (.cells i.cs 90 (0,0))
 n:w.heap.size<g5
 r:W.heap[gw]?=some (.cells cw 9 (0,0))
theorem D5.keep{w W W1:World}{g5 gw:Nat}{i:In}{cw:Array Value}(h:D5 w W g5 i gw cw)(hb:Below W.heap.size W W1):D5 w W1 g5 i gw cw :=
 ⟨h.b.trans (hb.mono h.b.size),Bk hb h.z,Bk hb h.i,h.n,Bk hb h.r⟩
theorem D5.drew{w W:World}{g5 gw:Nat}{i:In}{cw:Array Value}(h:D5 w W g5 i gw cw):D5 w W.drew g5 i gw cw:=⟨Bd h.b,Be h.z,Be h.i,h.n,Be h.r⟩
theorem D5.grown{w W W1:World}{g5 gw:Nat}{i:In}{cw:Array Value}{v:Value}{xs:List Int}(h:D5 w W g5 i gw cw)(hr:Bo W w.heap.size v xs)(hg:W.grownBy W1 v.ownBlock):D5 w W1 g5 i gw cw :=
 ⟨h.b.grown hg h.b.size (fun k hk=>Ob hr k hk),Bg h.z hg (Oa hr h.z (by decide)),Bg h.i hg (Oa hr h.i (by decide)),h.n,Bg h.r hg (Oa hr h.r (by decide))⟩
theorem D5.put{w W:World}{g5 gw:Nat}{i:In}{cw:Array Value}(h:D5 w W g5 i gw cw)(j:Nat)(u:Value)(i':In)(he:i'.cs=i.cs.setIfInBounds j u):D5 w (W.setCell ⟨g5,j,none⟩ u) g5 i' gw cw :=
 ⟨h.b.setCell (Nat.le_of_lt h.n) u,Ba h.z (show w.heap.size≠g5 from Nat.ne_of_lt h.n) u,by rw[he];exact Bs h.i j u,h.n,Ba h.r (CU h.r h.i (by decide)) u⟩
theorem KT{α:Type}{l:List α}{i:Nat}{o:α}(h:l[i]?=some o):l.toArray[i]?=some o:=by simpa using h
theorem ES{w W W1:World}{g5 gw:Nat}{i:In}{cw:Array Value}{x:Value}(hb:Below W.heap.size W W1)(h:Af (D5 w W g5 i gw cw)∧W.cell? ⟨gw,0,none⟩=some x):Af (D5 w W1 g5 i gw cw)∧W1.cell? ⟨gw,0,none⟩=some x :=
 ⟨⟨h.1.out.keep hb⟩,(Bc (h.1.out.keep hb).r 0).trans ((Bc h.1.out.r 0).symm.trans h.2)⟩
theorem KU{n:Nat}{v:Int}{l:List Int}(h:l.length<n):Fc n v (l++[v])=Fc n v l:=by
 unfold Fc;rw[List.length_append,List.length_singleton,List.append_assoc,show n-l.length=(n-(l.length+1))+1 by omega,List.replicate_succ];rfl
theorem KV{n:Nat}{v:Int}{l:List Int}(h:n≤l.length):Fc n v l=l:=by
 unfold Fc;rw[show n-l.length=0 by omega];simp
def sliceLen:Value→Nat
 |.slice _ n _=>n
 |_=>0
theorem Zh{W:World}{g7 g5:Nat}{x0 x1 x2 x3:Int}(hne:g7≠g5)(j:Nat)(u:Value)
  (h:W.cell? ⟨g7,0,none⟩=some (.int .i64 x0)∧W.cell? ⟨g7,1,none⟩=some (.int .i64 x1)∧W.cell? ⟨g7,2,none⟩=some (.int .i64 x2)∧W.cell? ⟨g7,3,none⟩=some (.int .i64 x3)) :
  (W.setCell ⟨g5,j,none⟩ u).cell? ⟨g7,0,none⟩=some (.int .i64 x0)∧(W.setCell ⟨g5,j,none⟩ u).cell? ⟨g7,1,none⟩=some (.int .i64 x1)∧(W.setCell ⟨g5,j,none⟩ u).cell? ⟨g7,2,none⟩=some (.int .i64 x2)∧(W.setCell ⟨g5,j,none⟩ u).cell? ⟨g7,3,none⟩=some (.int .i64 x3):=by
 have e:(W.setCell ⟨g5,j,none⟩ u).heap[g7]?=W.heap[g7]?:=Below.heap_setCell W _ u g7 hne;exact⟨(World.cell?_of_block (w:=W) (a:=⟨g7,0,none⟩) e).trans h.1,(World.cell?_of_block (w:=W) (a:=⟨g7,1,none⟩) e).trans h.2.1,(World.cell?_of_block (w:=W) (a:=⟨g7,2,none⟩) e).trans h.2.2.1,(World.cell?_of_block (w:=W) (a:=⟨g7,3,none⟩) e).trans h.2.2.2⟩
theorem D3{W:World}{g7 g5:Nat}{x0 x1 x2 x3:Int}(hne:g7≠g5)(j:Nat)(u:Value)
 (h:W.drew.cell? ⟨g7,0,none⟩=some (.int .i64 x0)∧W.drew.cell? ⟨g7,1,none⟩=some (.int .i64 x1)∧W.drew.cell? ⟨g7,2,none⟩=some (.int .i64 x2)∧W.drew.cell? ⟨g7,3,none⟩=some (.int .i64 x3)) :
 (W.setCell ⟨g5,j,none⟩ u).drew.cell? ⟨g7,0,none⟩=some (.int .i64 x0)∧(W.setCell ⟨g5,j,none⟩ u).drew.cell? ⟨g7,1,none⟩=some (.int .i64 x1)∧(W.setCell ⟨g5,j,none⟩ u).drew.cell? ⟨g7,2,none⟩=some (.int .i64 x2)∧(W.setCell ⟨g5,j,none⟩ u).drew.cell? ⟨g7,3,none⟩=some (.int .i64 x3):=Zh (W:=W) hne j u h
theorem Gu(w:List UInt8):∀ (n:Nat) (op acc:Int),Gv w n op acc=acc∨Ak (Gv w n op acc)≠[]
 |0,op,acc=>.inl rfl
 |n+1,op,acc=>by
  rw[Gv];by_cases h:Ak op≠[]∧Ak op=w
  ·rw[if_pos h];rcases Gu w n (op+1) op with h1 |h1
   ·rw[h1];exact .inr h.1
   ·exact .inr h1
  ·rw[if_neg h];exact Gu w n (op+1) acc
theorem OK(w:List UInt8):HH w=0∨(1≤HH w∧HH w≤13)∨(16≤HH w∧HH w≤23):=by
 rcases Gu w 23 1 0 with h |h
 ·exact .inl h
 ·exact .inr (MM h)
theorem D5.BX{w W:World}{g5 gw:Nat}{i:In}{cw:Array Value}(h:D5 w W g5 i gw cw)(j:Nat)(h1:1≤j)(h5:j≤5)(v:Int):D5 w (W.setCell ⟨g5,j,none⟩ (.int .i64 v)) g5 (i.put v j) gw cw :=
 h.put j _ _ (In.Qm _ _ _ h1 h5).symm
theorem D5.OH{w W:World}{g5 gw:Nat}{i:In}{cw:Array Value}(h:D5 w W g5 i gw cw)(v:Int):D5 w (W.setCell ⟨g5,6,none⟩ (.int .u32 v)) g5 {i with k:=v} gw cw:=h.put 6 _ _ rfl
theorem D5.Sx{w W:World}{g5 gw:Nat}{i:In}{cw:Array Value}(h:D5 w W g5 i gw cw)(v:Int):D5 w (W.setCell ⟨g5,7,none⟩ (.int .i64 v)) g5 {i with q:=v} gw cw:=h.put 7 _ _ rfl
theorem Wx(op k x0 x1 x2 x3 y0 y1:Int)(hk:k=0∨k=1):(C6 op k x0 x1 x2 x3 y0 y1).wk:=by
 have hk':0≤k∧k≤4294967295:=by omega
 have h0:0≤y0%4294967296∧y0%4294967296≤4294967295:=by omega
 have h1:0≤y1%4294967296∧y1%4294967296≤4294967295:=by omega
 unfold C6 In.wk;repeat (first |split |assumption)
theorem Uc(g m c:Nat)(hc:m+1≤c):∃ (A':Option Addr) (c':Nat),(∀ W:World,(Instr.slice 85 (.slice (some ⟨g,0,none⟩) (m+1) c) (some (.int .i64 1)) none none).run Tryz.prog W=.ok (.slice A' m c') W)∧(0<m→A'=some ⟨g,1,none⟩):=by
 refine⟨if c=1 then some ⟨g,0,none⟩ else some ⟨g,1,none⟩,c-1,fun W=>?_,fun h=>if_neg (by omega)⟩;obtain⟨i9,hi,hz0,hz1,hz2⟩:=info_parts GU;have hel:Tryz.prog.elem 85=9:=by simp[Program.elem,Tryz.underlying85]
 have hu:Tryz.prog.underlying 85=some (.slice (Tryz.prog.elem 85)):=by rw[hel];exact Tryz.underlying85
 rw[run_slice_l W 85 (some ⟨g,0,none⟩) (m+1) c hu .i64 1 (by omega) (by omega),hel];by_cases h1:c=1
 ·subst h1;have:m=0:=by omega
  subst this;simp[sizeOf,typeInfo,hi,hz1,sliced,Result.andThen]
 ·rw[if_neg h1];simp[sizeOf,typeInfo,hi,hz1,sliced,Result.andThen,h1,Addr.add]
def Fb(op:Int):Prop:=∀ (w w5:World) (g5 g7 n7 c7 g:Nat) (cur:Array Value) (k x0 x1 x2 x3 y0 y1:Int) (_:Af (D5 w w5 g5 {In.zero with op:=op,k:=k} g cur)) (_:4≤n7) (_:g7≠g5)
 (_:w5.cell? ⟨g7,0,none⟩=some (.int .i64 x0)) (_:w5.cell? ⟨g7,1,none⟩=some (.int .i64 x1)) (_:w5.cell? ⟨g7,2,none⟩=some (.int .i64 x2)) (_:w5.cell? ⟨g7,3,none⟩=some (.int .i64 x3))
 (Q:Exit→Act→World→Prop)
 (t0 t1 t2 t3 t4 t6 t8 t9 t10 t11 t12 t15 t16 t17 t18 t19 t20 t21 t22 t23 t24 t25 t26 t27 t28 t29 t30 t31 t32 t33 t34 t35 t36 t37 t38 t39 t40 t41 t42 t43 t44 t45 t46 t47 t48 t49 t50 t51 t52 t53 t54 t55 t56 t57 t58 t59 t60 t61 t62 t63 t64 t65 t66 t67 t68 t69 t70 t71 t72 t73 t74 t75 t76 t77 t78 t79 t80 t81 t82 t83 t84 t85 t86 t87 t89 t90 t91 t92 t93 t94 t95 t96 t97 t98 t99 t100 t101 t102 t103 t104 t105 t106 t107 t108 t109 t110 t111 t112 t113 t114 t115 t116 t117 t118 t119 t120 t121 t122 t123 t124 t125 t126 t127 t128 t129 t130 t131 t132 t133 t134 t135 t136 t137 t138 t139 t140 t141 t142 t143 t144 t145 t146 t147 t148 t149 t150 t151 t152 t153 t154 t155 t156 t157 t158 t159 t160 t161 t162 t163 t164 t165 t166 t167 t168 t169 t170 t171 t172 t173 t174 t175 t176 t177 t178 t179 t180 t181 t182 t183 t184 t185 t186 t187 t188 t189 t190 t191 t192 t193 t194 t195 t196 t197 t198 t199 t200 t201 t202 t203 t204 t205 t206 t207 t208 t209 t210 t211 t212 t213 t214 t215:Value)
 (_:∀ (s89 s90 s91 s92 s93 s94 s95 s96 s97 s98 s99 s100 s101 s102 s103 s104 s105 s106 s107 s108 s109 s110 s111 s112 s113 s114 s115 s116 s117 s118 s119 s120 s121 s122 s123 s124 s125 s126 s127 s128 s129 s130 s131 s132 s133 s134 s135 s136 s137 s138 s139 s140 s141 s142 s143 s144 s145 s146 s147 s148 s149 s150 s151 s152 s153 s154 s155 s156 s157 s158 s159 s160 s161 s162 s163 s164 s165 s166 s167 s168 s169 s170 s171 s172 s173 s174 s175 s176 s177 s178 s179 s180 s181 s182 s183 s184 s185 s186 s187 s188 s189 s190 s191 s192 s193 s194 s195 s196 s197 s198 s199 s200 s201 s202 s203 s204:Value) (w':World),Af (D5 w w' g5 (C6 op k x0 x1 x2 x3 y0 y1) g cur)→Q .normal ⟨#[t0,t1,t2,t3,t4,.pointer (some ⟨g5,0,none⟩),t6,.slice (some ⟨g7,0,none⟩) n7 c7,t8,t9,t10,t11,t12,.int .i64 y0,.int .i64 y1,t15,t16,t17,t18,t19,t20,t21,t22,t23,t24,t25,t26,t27,t28,t29,t30,t31,t32,t33,t34,t35,t36,t37,t38,t39,t40,t41,t42,t43,t44,t45,t46,t47,t48,t49,t50,t51,t52,t53,t54,t55,t56,t57,t58,t59,t60,t61,t62,t63,t64,t65,t66,t67,t68,t69,t70,t71,t72,t73,t74,t75,t76,t77,t78,t79,t80,t81,t82,t83,t84,t85,t86,t87,.int .i64 op,s89,s90,s91,s92,s93,s94,s95,s96,s97,s98,s99,s100,s101,s102,s103,s104,s105,s106,s107,s108,s109,s110,s111,s112,s113,s114,s115,s116,s117,s118,s119,s120,s121,s122,s123,s124,s125,s126,s127,s128,s129,s130,s131,s132,s133,s134,s135,s136,s137,s138,s139,s140,s141,s142,s143,s144,s145,s146,s147,s148,s149,s150,s151,s152,s153,s154,s155,s156,s157,s158,s159,s160,s161,s162,s163,s164,s165,s166,s167,s168,s169,s170,s171,s172,s173,s174,s175,s176,s177,s178,s179,s180,s181,s182,s183,s184,s185,s186,s187,s188,s189,s190,s191,s192,s193,s194,s195,s196,s197,s198,s199,s200,s201,s202,s203,s204,t205,t206,t207,t208,t209,t210,t211,t212,t213,t214,t215],[]⟩ w'),
 Code.wp Tryz.prog S7 Q ⟨#[t0,t1,t2,t3,t4,.pointer (some ⟨g5,0,none⟩),t6,.slice (some ⟨g7,0,none⟩) n7 c7,t8,t9,t10,t11,t12,.int .i64 y0,.int .i64 y1,t15,t16,t17,t18,t19,t20,t21,t22,t23,t24,t25,t26,t27,t28,t29,t30,t31,t32,t33,t34,t35,t36,t37,t38,t39,t40,t41,t42,t43,t44,t45,t46,t47,t48,t49,t50,t51,t52,t53,t54,t55,t56,t57,t58,t59,t60,t61,t62,t63,t64,t65,t66,t67,t68,t69,t70,t71,t72,t73,t74,t75,t76,t77,t78,t79,t80,t81,t82,t83,t84,t85,t86,t87,.int .i64 op,t89,t90,t91,t92,t93,t94,t95,t96,t97,t98,t99,t100,t101,t102,t103,t104,t105,t106,t107,t108,t109,t110,t111,t112,t113,t114,t115,t116,t117,t118,t119,t120,t121,t122,t123,t124,t125,t126,t127,t128,t129,t130,t131,t132,t133,t134,t135,t136,t137,t138,t139,t140,t141,t142,t143,t144,t145,t146,t147,t148,t149,t150,t151,t152,t153,t154,t155,t156,t157,t158,t159,t160,t161,t162,t163,t164,t165,t166,t167,t168,t169,t170,t171,t172,t173,t174,t175,t176,t177,t178,t179,t180,t181,t182,t183,t184,t185,t186,t187,t188,t189,t190,t191,t192,t193,t194,t195,t196,t197,t198,t199,t200,t201,t202,t203,t204,t205,t206,t207,t208,t209,t210,t211,t212,t213,t214,t215],[]⟩ w5
theorem Aq{w W:World}{g5 g:Nat}{op k:Int}{cur:Array Value}(h:D5 w W g5 {In.zero with op:=op,k:=k} g cur)(j:Nat)(v:Value)(hv:(In.cs {In.zero with op:=op,k:=k})[j]?=some v):W.frozen? ⟨g5,j,none⟩=false∧W.cell? ⟨g5,j,none⟩=some v :=
 ⟨Bf h.i j,(Bc h.i j).trans hv⟩
abbrev S4(g7:Nat)(x0 x1 x2 x3:Int)(W:World):Prop:=W.cell? ⟨g7,0,none⟩=some (.int .i64 x0)∧W.cell? ⟨g7,1,none⟩=some (.int .i64 x1)∧W.cell? ⟨g7,2,none⟩=some (.int .i64 x2)∧W.cell? ⟨g7,3,none⟩=some (.int .i64 x3)
theorem Aaz:Fb 1:=by
 intro w w5 g5 g7 n7 c7 g cur k x0 x1 x2 x3 y0 y1 HI h4 hne r0' r1' r2' r3' Q
 intros
 rename_i hQ
 replace hQ:=Az hQ;obtain⟨f0,c0⟩:=Aq HI.out 0 _ rfl;obtain⟨f1,c1⟩:=Aq HI.out 1 _ rfl;obtain⟨f2,c2⟩:=Aq HI.out 2 _ rfl;obtain⟨f3,c3⟩:=Aq HI.out 3 _ rfl;obtain⟨f6,c6⟩:=Aq HI.out 6 _ rfl;have z5:g5<w5.heap.size:=Bl HI.out.i;have wr0:IntKind.u32.wrap y0=y0%4294967296:=IntKind.wrap_u32 _;have wr1:IntKind.u32.wrap y1=y1%4294967296:=IntKind.wrap_u32 _;obtain⟨q0,p0,q1,p1,q2,p2,q3,p3⟩:0<n7∧(0:Int)<(n7:Int)∧1<n7∧(1:Int)<(n7:Int)∧2<n7∧(2:Int)<(n7:Int)∧3<n7∧(3:Int)<(n7:Int):=by omega
 clear h4
 conv=>arg 2;whnf
 go_wp2_with fail
 have hS:S4 g7 x0 x1 x2 x3 w5.drew:=⟨r0',r1',r2',r3'⟩
 go_region_held3 (fun W=>S4 g7 x0 x1 x2 x3 W) (first |with_reducible exact hS |with_reducible exact D3 hne _ _ (by assumption)) (first |fail)
 have H:=Az (((HI.out.BX 1 (by decide) (by decide) x0).BX 2 (by decide) (by decide) x1).BX 3 (by decide) (by decide) x2).drew;obtain⟨w6,hw6⟩:∃ w6,w6=(((w5.setCell ⟨g5,1,none⟩ (.int .i64 x0)).setCell ⟨g5,2,none⟩ (.int .i64 x1)).setCell ⟨g5,3,none⟩ (.int .i64 x2)).drew:=⟨_,rfl⟩
 rw[←hw6]at H ⊢;clear hw6 HI hS f0 c0 f1 c1 f2 c2 f3 c3 f6 c6 r0' r1' r2' r3' z5;have d0:w6.cell? ⟨g5,0,none⟩=some (.int .i64 1):=(Bc H.out.i 0).trans rfl;have d6:w6.cell? ⟨g5,6,none⟩=some (.int .u32 k):=(Bc H.out.i 6).trans rfl;have e6:=Bf H.out.i 6;have e7:g5<w6.heap.size:=Bl H.out.i;go_wp2;rw[Ym]at hQ;apply hQ.out;exact⟨H.out.OH (y0%4294967296)⟩
theorem Aa0:Fb 2:=by
 intro w w5 g5 g7 n7 c7 g cur k x0 x1 x2 x3 y0 y1 HI h4 hne r0' r1' r2' r3' Q
 intros
 rename_i hQ
 replace hQ:=Az hQ;obtain⟨f0,c0⟩:=Aq HI.out 0 _ rfl;obtain⟨f1,c1⟩:=Aq HI.out 1 _ rfl;obtain⟨f2,c2⟩:=Aq HI.out 2 _ rfl;obtain⟨f3,c3⟩:=Aq HI.out 3 _ rfl;have z5:g5<w5.heap.size:=Bl HI.out.i;have wr0:IntKind.u32.wrap y0=y0%4294967296:=IntKind.wrap_u32 _;have wr1:IntKind.u32.wrap y1=y1%4294967296:=IntKind.wrap_u32 _;obtain⟨q0,p0,q1,p1,q2,p2,q3,p3⟩:0<n7∧(0:Int)<(n7:Int)∧1<n7∧(1:Int)<(n7:Int)∧2<n7∧(2:Int)<(n7:Int)∧3<n7∧(3:Int)<(n7:Int):=by omega
 clear h4
 conv=>arg 2;whnf
 go_wp2_with fail
 have hS:S4 g7 x0 x1 x2 x3 w5.drew:=⟨r0',r1',r2',r3'⟩
 go_region_held3 (fun W=>S4 g7 x0 x1 x2 x3 W) (first |with_reducible exact hS |with_reducible exact D3 hne _ _ (by assumption)) (first |fail)
 have H:=Az (((HI.out.BX 1 (by decide) (by decide) x0).BX 2 (by decide) (by decide) x1).BX 3 (by decide) (by decide) x2).drew;obtain⟨w6,hw6⟩:∃ w6,w6=(((w5.setCell ⟨g5,1,none⟩ (.int .i64 x0)).setCell ⟨g5,2,none⟩ (.int .i64 x1)).setCell ⟨g5,3,none⟩ (.int .i64 x2)).drew:=⟨_,rfl⟩
 rw[←hw6]at H ⊢;clear hw6 HI hS f0 c0 f1 c1 f2 c2 f3 c3 r0' r1' r2' r3' z5;have d0:w6.cell? ⟨g5,0,none⟩=some (.int .i64 2):=(Bc H.out.i 0).trans rfl;go_wp2;rw[Yn]at hQ;apply hQ.out;exact⟨H.out⟩
theorem Aa1:Fb 3:=by
 intro w w5 g5 g7 n7 c7 g cur k x0 x1 x2 x3 y0 y1 HI h4 hne r0' r1' r2' r3' Q
 intros
 rename_i hQ
 replace hQ:=Az hQ;obtain⟨f0,c0⟩:=Aq HI.out 0 _ rfl;obtain⟨f1,c1⟩:=Aq HI.out 1 _ rfl;obtain⟨f2,c2⟩:=Aq HI.out 2 _ rfl;obtain⟨f3,c3⟩:=Aq HI.out 3 _ rfl;obtain⟨f6,c6⟩:=Aq HI.out 6 _ rfl;have z5:g5<w5.heap.size:=Bl HI.out.i;have wr0:IntKind.u32.wrap y0=y0%4294967296:=IntKind.wrap_u32 _;have wr1:IntKind.u32.wrap y1=y1%4294967296:=IntKind.wrap_u32 _;obtain⟨q0,p0,q1,p1,q2,p2,q3,p3⟩:0<n7∧(0:Int)<(n7:Int)∧1<n7∧(1:Int)<(n7:Int)∧2<n7∧(2:Int)<(n7:Int)∧3<n7∧(3:Int)<(n7:Int):=by omega
 clear h4
 conv=>arg 2;whnf
 go_wp2_with fail
 have hS:S4 g7 x0 x1 x2 x3 w5.drew:=⟨r0',r1',r2',r3'⟩
 go_region_held3 (fun W=>S4 g7 x0 x1 x2 x3 W) (first |with_reducible exact hS |with_reducible exact D3 hne _ _ (by assumption)) (first |fail)
 have H:=Az (((HI.out.BX 1 (by decide) (by decide) x0).BX 2 (by decide) (by decide) x1).BX 3 (by decide) (by decide) x2).drew;obtain⟨w6,hw6⟩:∃ w6,w6=(((w5.setCell ⟨g5,1,none⟩ (.int .i64 x0)).setCell ⟨g5,2,none⟩ (.int .i64 x1)).setCell ⟨g5,3,none⟩ (.int .i64 x2)).drew:=⟨_,rfl⟩
 rw[←hw6]at H ⊢;clear hw6 HI hS f0 c0 f1 c1 f2 c2 f3 c3 f6 c6 r0' r1' r2' r3' z5;have d0:w6.cell? ⟨g5,0,none⟩=some (.int .i64 3):=(Bc H.out.i 0).trans rfl;have d6:w6.cell? ⟨g5,6,none⟩=some (.int .u32 k):=(Bc H.out.i 6).trans rfl;have e6:=Bf H.out.i 6;have e7:g5<w6.heap.size:=Bl H.out.i;go_wp2;rw[Yo]at hQ;apply hQ.out;exact⟨H.out.OH (y0%4294967296)⟩
theorem Aa2:Fb 4:=by
 intro w w5 g5 g7 n7 c7 g cur k x0 x1 x2 x3 y0 y1 HI h4 hne r0' r1' r2' r3' Q
 intros
 rename_i hQ
 replace hQ:=Az hQ;obtain⟨f0,c0⟩:=Aq HI.out 0 _ rfl;obtain⟨f1,c1⟩:=Aq HI.out 1 _ rfl;obtain⟨f2,c2⟩:=Aq HI.out 2 _ rfl;obtain⟨f3,c3⟩:=Aq HI.out 3 _ rfl;obtain⟨f6,c6⟩:=Aq HI.out 6 _ rfl;have z5:g5<w5.heap.size:=Bl HI.out.i;have wr0:IntKind.u32.wrap y0=y0%4294967296:=IntKind.wrap_u32 _;have wr1:IntKind.u32.wrap y1=y1%4294967296:=IntKind.wrap_u32 _;obtain⟨q0,p0,q1,p1,q2,p2,q3,p3⟩:0<n7∧(0:Int)<(n7:Int)∧1<n7∧(1:Int)<(n7:Int)∧2<n7∧(2:Int)<(n7:Int)∧3<n7∧(3:Int)<(n7:Int):=by omega
 clear h4
 conv=>arg 2;whnf
 go_wp2_with fail
 have hS:S4 g7 x0 x1 x2 x3 w5.drew:=⟨r0',r1',r2',r3'⟩
 go_region_held3 (fun W=>S4 g7 x0 x1 x2 x3 W) (first |with_reducible exact hS |with_reducible exact D3 hne _ _ (by assumption)) (first |fail)
 have H:=Az (((HI.out.BX 1 (by decide) (by decide) x0).BX 2 (by decide) (by decide) x1).BX 3 (by decide) (by decide) x2).drew;obtain⟨w6,hw6⟩:∃ w6,w6=(((w5.setCell ⟨g5,1,none⟩ (.int .i64 x0)).setCell ⟨g5,2,none⟩ (.int .i64 x1)).setCell ⟨g5,3,none⟩ (.int .i64 x2)).drew:=⟨_,rfl⟩
 rw[←hw6]at H ⊢;clear hw6 HI hS f0 c0 f1 c1 f2 c2 f3 c3 f6 c6 r0' r1' r2' r3' z5;have d0:w6.cell? ⟨g5,0,none⟩=some (.int .i64 4):=(Bc H.out.i 0).trans rfl;have d6:w6.cell? ⟨g5,6,none⟩=some (.int .u32 k):=(Bc H.out.i 6).trans rfl;have e6:=Bf H.out.i 6;have e7:g5<w6.heap.size:=Bl H.out.i;go_wp2;rw[Yp]at hQ;apply hQ.out;exact⟨H.out.OH (y0%4294967296)⟩
theorem Aa3:Fb 5:=by
 intro w w5 g5 g7 n7 c7 g cur k x0 x1 x2 x3 y0 y1 HI h4 hne r0' r1' r2' r3' Q
 intros
 rename_i hQ
 replace hQ:=Az hQ;obtain⟨f0,c0⟩:=Aq HI.out 0 _ rfl;obtain⟨f1,c1⟩:=Aq HI.out 1 _ rfl;obtain⟨f2,c2⟩:=Aq HI.out 2 _ rfl;obtain⟨f3,c3⟩:=Aq HI.out 3 _ rfl;obtain⟨f6,c6⟩:=Aq HI.out 6 _ rfl;have z5:g5<w5.heap.size:=Bl HI.out.i;have wr0:IntKind.u32.wrap y0=y0%4294967296:=IntKind.wrap_u32 _;have wr1:IntKind.u32.wrap y1=y1%4294967296:=IntKind.wrap_u32 _;obtain⟨q0,p0,q1,p1,q2,p2,q3,p3⟩:0<n7∧(0:Int)<(n7:Int)∧1<n7∧(1:Int)<(n7:Int)∧2<n7∧(2:Int)<(n7:Int)∧3<n7∧(3:Int)<(n7:Int):=by omega
 clear h4
 conv=>arg 2;whnf
 go_wp2_with fail
 have hS:S4 g7 x0 x1 x2 x3 w5.drew:=⟨r0',r1',r2',r3'⟩
 go_region_held3 (fun W=>S4 g7 x0 x1 x2 x3 W) (first |with_reducible exact hS |with_reducible exact D3 hne _ _ (by assumption)) (first |fail)
 have H:=Az (((HI.out.BX 1 (by decide) (by decide) x0).BX 2 (by decide) (by decide) x1).BX 3 (by decide) (by decide) x2).drew;obtain⟨w6,hw6⟩:∃ w6,w6=(((w5.setCell ⟨g5,1,none⟩ (.int .i64 x0)).setCell ⟨g5,2,none⟩ (.int .i64 x1)).setCell ⟨g5,3,none⟩ (.int .i64 x2)).drew:=⟨_,rfl⟩
 rw[←hw6]at H ⊢;clear hw6 HI hS f0 c0 f1 c1 f2 c2 f3 c3 f6 c6 r0' r1' r2' r3' z5;have d0:w6.cell? ⟨g5,0,none⟩=some (.int .i64 5):=(Bc H.out.i 0).trans rfl;have d6:w6.cell? ⟨g5,6,none⟩=some (.int .u32 k):=(Bc H.out.i 6).trans rfl;have e6:=Bf H.out.i 6;have e7:g5<w6.heap.size:=Bl H.out.i;go_wp2;rw[Yq]at hQ;apply hQ.out;exact⟨H.out.OH (y0%4294967296)⟩
theorem Aa4:Fb 6:=by
 intro w w5 g5 g7 n7 c7 g cur k x0 x1 x2 x3 y0 y1 HI h4 hne r0' r1' r2' r3' Q
 intros
 rename_i hQ
 replace hQ:=Az hQ;obtain⟨f0,c0⟩:=Aq HI.out 0 _ rfl;obtain⟨f1,c1⟩:=Aq HI.out 1 _ rfl;obtain⟨f2,c2⟩:=Aq HI.out 2 _ rfl;obtain⟨f3,c3⟩:=Aq HI.out 3 _ rfl;obtain⟨f6,c6⟩:=Aq HI.out 6 _ rfl;have z5:g5<w5.heap.size:=Bl HI.out.i;have wr0:IntKind.u32.wrap y0=y0%4294967296:=IntKind.wrap_u32 _;have wr1:IntKind.u32.wrap y1=y1%4294967296:=IntKind.wrap_u32 _;obtain⟨q0,p0,q1,p1,q2,p2,q3,p3⟩:0<n7∧(0:Int)<(n7:Int)∧1<n7∧(1:Int)<(n7:Int)∧2<n7∧(2:Int)<(n7:Int)∧3<n7∧(3:Int)<(n7:Int):=by omega
 clear h4
 conv=>arg 2;whnf
 go_wp2_with fail
 have hS:S4 g7 x0 x1 x2 x3 w5.drew:=⟨r0',r1',r2',r3'⟩
 go_region_held3 (fun W=>S4 g7 x0 x1 x2 x3 W) (first |with_reducible exact hS |with_reducible exact D3 hne _ _ (by assumption)) (first |fail)
 have H:=Az (((HI.out.BX 1 (by decide) (by decide) x0).BX 2 (by decide) (by decide) x1).BX 3 (by decide) (by decide) x2).drew;obtain⟨w6,hw6⟩:∃ w6,w6=(((w5.setCell ⟨g5,1,none⟩ (.int .i64 x0)).setCell ⟨g5,2,none⟩ (.int .i64 x1)).setCell ⟨g5,3,none⟩ (.int .i64 x2)).drew:=⟨_,rfl⟩
 rw[←hw6]at H ⊢;clear hw6 HI hS f0 c0 f1 c1 f2 c2 f3 c3 f6 c6 r0' r1' r2' r3' z5;have d0:w6.cell? ⟨g5,0,none⟩=some (.int .i64 6):=(Bc H.out.i 0).trans rfl;have d6:w6.cell? ⟨g5,6,none⟩=some (.int .u32 k):=(Bc H.out.i 6).trans rfl;have e6:=Bf H.out.i 6;have e7:g5<w6.heap.size:=Bl H.out.i;go_wp2;rw[Yr]at hQ;apply hQ.out;exact⟨H.out.OH (y0%4294967296)⟩
theorem Aa5:Fb 7:=by
 intro w w5 g5 g7 n7 c7 g cur k x0 x1 x2 x3 y0 y1 HI h4 hne r0' r1' r2' r3' Q
 intros
 rename_i hQ
 replace hQ:=Az hQ;obtain⟨f0,c0⟩:=Aq HI.out 0 _ rfl;obtain⟨f1,c1⟩:=Aq HI.out 1 _ rfl;obtain⟨f2,c2⟩:=Aq HI.out 2 _ rfl;obtain⟨f3,c3⟩:=Aq HI.out 3 _ rfl;have z5:g5<w5.heap.size:=Bl HI.out.i;have wr0:IntKind.u32.wrap y0=y0%4294967296:=IntKind.wrap_u32 _;have wr1:IntKind.u32.wrap y1=y1%4294967296:=IntKind.wrap_u32 _;obtain⟨q0,p0,q1,p1,q2,p2,q3,p3⟩:0<n7∧(0:Int)<(n7:Int)∧1<n7∧(1:Int)<(n7:Int)∧2<n7∧(2:Int)<(n7:Int)∧3<n7∧(3:Int)<(n7:Int):=by omega
 clear h4
 conv=>arg 2;whnf
 go_wp2_with fail
 have hS:S4 g7 x0 x1 x2 x3 w5.drew:=⟨r0',r1',r2',r3'⟩
 go_region_held3 (fun W=>S4 g7 x0 x1 x2 x3 W) (first |with_reducible exact hS |with_reducible exact D3 hne _ _ (by assumption)) (first |fail)
 have H:=Az (((HI.out.BX 1 (by decide) (by decide) x0).BX 2 (by decide) (by decide) x1).BX 3 (by decide) (by decide) x2).drew;obtain⟨w6,hw6⟩:∃ w6,w6=(((w5.setCell ⟨g5,1,none⟩ (.int .i64 x0)).setCell ⟨g5,2,none⟩ (.int .i64 x1)).setCell ⟨g5,3,none⟩ (.int .i64 x2)).drew:=⟨_,rfl⟩
 rw[←hw6]at H ⊢;clear hw6 HI hS f0 c0 f1 c1 f2 c2 f3 c3 r0' r1' r2' r3' z5;have d0:w6.cell? ⟨g5,0,none⟩=some (.int .i64 7):=(Bc H.out.i 0).trans rfl;go_wp2;rw[Ys]at hQ;apply hQ.out;exact⟨H.out⟩
end
end Go.Proofs.YtnmahobjmpdkdaaGreatDoor

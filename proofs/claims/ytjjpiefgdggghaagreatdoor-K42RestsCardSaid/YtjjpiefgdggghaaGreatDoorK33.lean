/- Parts: RefRightC, RefTextA. -/
import Derived.Test.YtjjpiefgdggghaaGreatDoorK05
import Derived.Test.YtjjpiefgdggghaaGreatDoorK12
import Derived.Test.YtjjpiefgdggghaaGreatDoorK14
import Derived.RegionTactic
import Derived.BigRegion
import Derived.Deep.RegionHeld3
import Derived.Test.YtjjpiefgdggghaaGreatDoorK22
set_option linter.unusedVariables false
set_option linter.unusedSimpArgs false
set_option maxRecDepth 100000
set_option maxHeartbeats 40000000
namespace Go.Proofs.YtjjpiefgdggghaaGreatDoor
section
open Go.RowKit Go.Proofs.YtjjpiefgdggghaaGreatDoorW.PrintWords
theorem PL(d s t u a k q places:Int)(w:World)(hd:0≤d∧d≤7)(hs:0≤s∧s≤7)(ht:0≤t∧t≤7)(hu:0≤u∧u≤7)(ha:0≤a∧a≤7)(hk:0≤k∧k≤4294967295) :
  Calls Tryz.prog 69 #[.agg #[.int .i64 16,.int .i64 d,.int .i64 s,.int .i64 t,.int .i64 u,.int .i64 a,.int .u32 k,.int .i64 q],.int .i64 places] w fun e w'=>e=.returned (.bool (AN ⟨16,d,s,t,u,a,k,q⟩ places))∧Below w.heap.size w w':=by
 rw[SZ d s t u a k q places hd hs ht hu ha hk];have keq:∀ W,(binOp .eql 114 (.agg #[.int .i64 16,.int .i64 d,.int .i64 s,.int .i64 0,.int .i64 0,.int .i64 a,.int .u32 0,.int .i64 0]) (.agg #[.int .i64 16,.int .i64 d,.int .i64 s,.int .i64 t,.int .i64 u,.int .i64 a,.int .u32 k,.int .i64 q])).run Tryz.prog W=.ok (.bool (decide ((⟨16,d,s,0,0,a,0,0⟩:In)=⟨16,d,s,t,u,a,k,q⟩))) W:=fun W=>DQ ⟨16,d,s,0,0,a,0,0⟩ ⟨16,d,s,t,u,a,k,q⟩ W
 generalize decide ((⟨16,d,s,0,0,a,0,0⟩:In)=⟨16,d,s,t,u,a,k,q⟩)=cmp at keq ⊢;generalize hfin:(cmp)=fin;replace hfin:=Az hfin;go_enter Tryz.func69,Tryz.ntmps69;go_wp2_with fail
 refine(AA 16 _).mono ?_;rintro e w1 ⟨rfl,hb⟩;have BK:=Az (Bk hb (Bv w _));have z:w.heap.size<w1.heap.size:=Bl BK.out;have hbe:Below w.heap.size w w1:=((Below.refl w.heap.size w).alloc (Nl _) _).trans (hb.mono (by simp));replace hbe:=Az hbe;have c0:w1.cell? ⟨w.heap.size,0,none⟩=some (.int .i64 16):=(Bc BK.out 0).trans rfl;have c1:w1.cell? ⟨w.heap.size,1,none⟩=some (.int .i64 d):=(Bc BK.out 1).trans rfl;have c2:w1.cell? ⟨w.heap.size,2,none⟩=some (.int .i64 s):=(Bc BK.out 2).trans rfl;have c3:w1.cell? ⟨w.heap.size,3,none⟩=some (.int .i64 t):=(Bc BK.out 3).trans rfl;have c4:w1.cell? ⟨w.heap.size,4,none⟩=some (.int .i64 u):=(Bc BK.out 4).trans rfl;have c5:w1.cell? ⟨w.heap.size,5,none⟩=some (.int .i64 a):=(Bc BK.out 5).trans rfl;have c6:w1.cell? ⟨w.heap.size,6,none⟩=some (.int .u32 k):=(Bc BK.out 6).trans rfl;have c7:w1.cell? ⟨w.heap.size,7,none⟩=some (.int .i64 q):=(Bc BK.out 7).trans rfl;rw[show Ak 16=[108,111,97,100] from rfl];go_wp2_with fail
 refine(At d hd _).mono ?_;rintro e w' ⟨rfl,rfl⟩;go_wp2_with fail
 refine(At s hs _).mono ?_;rintro e w' ⟨rfl,rfl⟩;go_wp2_with fail
 refine(At t ht _).mono ?_;rintro e w' ⟨rfl,rfl⟩;go_wp2_with fail
 refine(At u hu _).mono ?_;rintro e w' ⟨rfl,rfl⟩;go_wp2_with fail
 refine(At a ha _).mono ?_;rintro e w' ⟨rfl,rfl⟩;go_wp2_with fail
 go_region_held3 (fun W=>W.cell? ⟨w.heap.size,1,none⟩=some (.int .i64 d)∧W.cell? ⟨w.heap.size,5,none⟩=some (.int .i64 a)∧W.cell? ⟨w.heap.size,2,none⟩=some (.int .i64 s)) (go_keep) (fail)
 cases cmp with
 |false =>
  go_wp2;go_ret;refine⟨congrArg (fun b=>Ending.returned (.bool b)) (show false=fin from ?_),?_⟩
  ·first |(rw[←hfin.out];done) |(rw[←hfin.out];simp)
  ·apply_rules [Bd,Below.setCell,Below.alloc,hbe.out]<;>first |omega |(simp;omega)
 |true =>
  go_wp2;go_ret;refine⟨congrArg (fun b=>Ending.returned (.bool b)) (show true=fin from ?_),?_⟩
  ·first |(rw[←hfin.out];done) |(rw[←hfin.out];simp)
  ·apply_rules [Bd,Below.setCell,Below.alloc,hbe.out]<;>first |omega |(simp;omega)
theorem PM(d s t u a k q places:Int)(w:World)(hd:0≤d∧d≤7)(hs:0≤s∧s≤7)(ht:0≤t∧t≤7)(hu:0≤u∧u≤7)(ha:0≤a∧a≤7)(hk:0≤k∧k≤4294967295) :
  Calls Tryz.prog 69 #[.agg #[.int .i64 17,.int .i64 d,.int .i64 s,.int .i64 t,.int .i64 u,.int .i64 a,.int .u32 k,.int .i64 q],.int .i64 places] w fun e w'=>e=.returned (.bool (AN ⟨17,d,s,t,u,a,k,q⟩ places))∧Below w.heap.size w w':=by
 rw[Ta d s t u a k q places hd hs ht hu ha hk];have keq:∀ W,(binOp .eql 114 (.agg #[.int .i64 17,.int .i64 0,.int .i64 s,.int .i64 t,.int .i64 0,.int .i64 a,.int .u32 0,.int .i64 0]) (.agg #[.int .i64 17,.int .i64 d,.int .i64 s,.int .i64 t,.int .i64 u,.int .i64 a,.int .u32 k,.int .i64 q])).run Tryz.prog W=.ok (.bool (decide ((⟨17,0,s,t,0,a,0,0⟩:In)=⟨17,d,s,t,u,a,k,q⟩))) W:=fun W=>DQ ⟨17,0,s,t,0,a,0,0⟩ ⟨17,d,s,t,u,a,k,q⟩ W
 generalize decide ((⟨17,0,s,t,0,a,0,0⟩:In)=⟨17,d,s,t,u,a,k,q⟩)=cmp at keq ⊢;generalize hfin:(cmp)=fin;replace hfin:=Az hfin;go_enter Tryz.func69,Tryz.ntmps69;go_wp2_with fail
 refine(AA 17 _).mono ?_;rintro e w1 ⟨rfl,hb⟩;have BK:=Az (Bk hb (Bv w _));have z:w.heap.size<w1.heap.size:=Bl BK.out;have hbe:Below w.heap.size w w1:=((Below.refl w.heap.size w).alloc (Nl _) _).trans (hb.mono (by simp));replace hbe:=Az hbe;have c0:w1.cell? ⟨w.heap.size,0,none⟩=some (.int .i64 17):=(Bc BK.out 0).trans rfl;have c1:w1.cell? ⟨w.heap.size,1,none⟩=some (.int .i64 d):=(Bc BK.out 1).trans rfl;have c2:w1.cell? ⟨w.heap.size,2,none⟩=some (.int .i64 s):=(Bc BK.out 2).trans rfl;have c3:w1.cell? ⟨w.heap.size,3,none⟩=some (.int .i64 t):=(Bc BK.out 3).trans rfl;have c4:w1.cell? ⟨w.heap.size,4,none⟩=some (.int .i64 u):=(Bc BK.out 4).trans rfl;have c5:w1.cell? ⟨w.heap.size,5,none⟩=some (.int .i64 a):=(Bc BK.out 5).trans rfl;have c6:w1.cell? ⟨w.heap.size,6,none⟩=some (.int .u32 k):=(Bc BK.out 6).trans rfl;have c7:w1.cell? ⟨w.heap.size,7,none⟩=some (.int .i64 q):=(Bc BK.out 7).trans rfl;rw[show Ak 17=[115,116,111,114,101] from rfl];go_wp2_with fail
 refine(At d hd _).mono ?_;rintro e w' ⟨rfl,rfl⟩;go_wp2_with fail
 refine(At s hs _).mono ?_;rintro e w' ⟨rfl,rfl⟩;go_wp2_with fail
 refine(At t ht _).mono ?_;rintro e w' ⟨rfl,rfl⟩;go_wp2_with fail
 refine(At u hu _).mono ?_;rintro e w' ⟨rfl,rfl⟩;go_wp2_with fail
 refine(At a ha _).mono ?_;rintro e w' ⟨rfl,rfl⟩;go_wp2_with fail
 go_region_held3 (fun W=>W.cell? ⟨w.heap.size,5,none⟩=some (.int .i64 a)∧W.cell? ⟨w.heap.size,2,none⟩=some (.int .i64 s)∧W.cell? ⟨w.heap.size,3,none⟩=some (.int .i64 t)) (go_keep) (fail)
 cases cmp with
 |false =>
  go_wp2;go_ret;refine⟨congrArg (fun b=>Ending.returned (.bool b)) (show false=fin from ?_),?_⟩
  ·first |(rw[←hfin.out];done) |(rw[←hfin.out];simp)
  ·apply_rules [Bd,Below.setCell,Below.alloc,hbe.out]<;>first |omega |(simp;omega)
 |true =>
  go_wp2;go_ret;refine⟨congrArg (fun b=>Ending.returned (.bool b)) (show true=fin from ?_),?_⟩
  ·first |(rw[←hfin.out];done) |(rw[←hfin.out];simp)
  ·apply_rules [Bd,Below.setCell,Below.alloc,hbe.out]<;>first |omega |(simp;omega)
theorem PN(d s t u a k q places:Int)(w:World)(hd:0≤d∧d≤7)(hs:0≤s∧s≤7)(ht:0≤t∧t≤7)(hu:0≤u∧u≤7)(ha:0≤a∧a≤7)(hk:0≤k∧k≤4294967295) :
  Calls Tryz.prog 69 #[.agg #[.int .i64 18,.int .i64 d,.int .i64 s,.int .i64 t,.int .i64 u,.int .i64 a,.int .u32 k,.int .i64 q],.int .i64 places] w fun e w'=>e=.returned (.bool (AN ⟨18,d,s,t,u,a,k,q⟩ places))∧Below w.heap.size w w':=by
 rw[Tb d s t u a k q places hd hs ht hu ha hk];have keq:∀ W,(binOp .eql 114 (.agg #[.int .i64 18,.int .i64 d,.int .i64 s,.int .i64 t,.int .i64 0,.int .i64 a,.int .u32 0,.int .i64 0]) (.agg #[.int .i64 18,.int .i64 d,.int .i64 s,.int .i64 t,.int .i64 u,.int .i64 a,.int .u32 k,.int .i64 q])).run Tryz.prog W=.ok (.bool (decide ((⟨18,d,s,t,0,a,0,0⟩:In)=⟨18,d,s,t,u,a,k,q⟩))) W:=fun W=>DQ ⟨18,d,s,t,0,a,0,0⟩ ⟨18,d,s,t,u,a,k,q⟩ W
 generalize decide ((⟨18,d,s,t,0,a,0,0⟩:In)=⟨18,d,s,t,u,a,k,q⟩)=cmp at keq ⊢;generalize hfin:(cmp)=fin;replace hfin:=Az hfin;go_enter Tryz.func69,Tryz.ntmps69;go_wp2_with fail
 refine(AA 18 _).mono ?_;rintro e w1 ⟨rfl,hb⟩;have BK:=Az (Bk hb (Bv w _));have z:w.heap.size<w1.heap.size:=Bl BK.out;have hbe:Below w.heap.size w w1:=((Below.refl w.heap.size w).alloc (Nl _) _).trans (hb.mono (by simp));replace hbe:=Az hbe;have c0:w1.cell? ⟨w.heap.size,0,none⟩=some (.int .i64 18):=(Bc BK.out 0).trans rfl;have c1:w1.cell? ⟨w.heap.size,1,none⟩=some (.int .i64 d):=(Bc BK.out 1).trans rfl;have c2:w1.cell? ⟨w.heap.size,2,none⟩=some (.int .i64 s):=(Bc BK.out 2).trans rfl;have c3:w1.cell? ⟨w.heap.size,3,none⟩=some (.int .i64 t):=(Bc BK.out 3).trans rfl;have c4:w1.cell? ⟨w.heap.size,4,none⟩=some (.int .i64 u):=(Bc BK.out 4).trans rfl;have c5:w1.cell? ⟨w.heap.size,5,none⟩=some (.int .i64 a):=(Bc BK.out 5).trans rfl;have c6:w1.cell? ⟨w.heap.size,6,none⟩=some (.int .u32 k):=(Bc BK.out 6).trans rfl;have c7:w1.cell? ⟨w.heap.size,7,none⟩=some (.int .i64 q):=(Bc BK.out 7).trans rfl;rw[show Ak 18=[115,119,97,112] from rfl];go_wp2_with fail
 refine(At d hd _).mono ?_;rintro e w' ⟨rfl,rfl⟩;go_wp2_with fail
 refine(At s hs _).mono ?_;rintro e w' ⟨rfl,rfl⟩;go_wp2_with fail
 refine(At t ht _).mono ?_;rintro e w' ⟨rfl,rfl⟩;go_wp2_with fail
 refine(At u hu _).mono ?_;rintro e w' ⟨rfl,rfl⟩;go_wp2_with fail
 refine(At a ha _).mono ?_;rintro e w' ⟨rfl,rfl⟩;go_wp2_with fail
 go_region_held3 (fun W=>W.cell? ⟨w.heap.size,1,none⟩=some (.int .i64 d)∧W.cell? ⟨w.heap.size,5,none⟩=some (.int .i64 a)∧W.cell? ⟨w.heap.size,2,none⟩=some (.int .i64 s)∧W.cell? ⟨w.heap.size,3,none⟩=some (.int .i64 t)) (go_keep) (fail)
 cases cmp with
 |false =>
  go_wp2;go_ret;refine⟨congrArg (fun b=>Ending.returned (.bool b)) (show false=fin from ?_),?_⟩
  ·first |(rw[←hfin.out];done) |(rw[←hfin.out];simp)
  ·apply_rules [Bd,Below.setCell,Below.alloc,hbe.out]<;>first |omega |(simp;omega)
 |true =>
  go_wp2;go_ret;refine⟨congrArg (fun b=>Ending.returned (.bool b)) (show true=fin from ?_),?_⟩
  ·first |(rw[←hfin.out];done) |(rw[←hfin.out];simp)
  ·apply_rules [Bd,Below.setCell,Below.alloc,hbe.out]<;>first |omega |(simp;omega)
theorem PO(d s t u a k q places:Int)(w:World)(hd:0≤d∧d≤7)(hs:0≤s∧s≤7)(ht:0≤t∧t≤7)(hu:0≤u∧u≤7)(ha:0≤a∧a≤7)(hk:0≤k∧k≤4294967295) :
  Calls Tryz.prog 69 #[.agg #[.int .i64 20,.int .i64 d,.int .i64 s,.int .i64 t,.int .i64 u,.int .i64 a,.int .u32 k,.int .i64 q],.int .i64 places] w fun e w'=>e=.returned (.bool (AN ⟨20,d,s,t,u,a,k,q⟩ places))∧Below w.heap.size w w':=by
 rw[Td d s t u a k q places hd hs ht hu ha hk];have keq:∀ W,(binOp .eql 114 (.agg #[.int .i64 20,.int .i64 d,.int .i64 s,.int .i64 0,.int .i64 0,.int .i64 a,.int .u32 k,.int .i64 0]) (.agg #[.int .i64 20,.int .i64 d,.int .i64 s,.int .i64 t,.int .i64 u,.int .i64 a,.int .u32 k,.int .i64 q])).run Tryz.prog W=.ok (.bool (decide ((⟨20,d,s,0,0,a,k,0⟩:In)=⟨20,d,s,t,u,a,k,q⟩))) W:=fun W=>DQ ⟨20,d,s,0,0,a,k,0⟩ ⟨20,d,s,t,u,a,k,q⟩ W
 generalize decide ((⟨20,d,s,0,0,a,k,0⟩:In)=⟨20,d,s,t,u,a,k,q⟩)=cmp at keq ⊢;generalize hfin:(cmp)=fin;replace hfin:=Az hfin;go_enter Tryz.func69,Tryz.ntmps69;go_wp2_with fail
 refine(AA 20 _).mono ?_;rintro e w1 ⟨rfl,hb⟩;have BK:=Az (Bk hb (Bv w _));have z:w.heap.size<w1.heap.size:=Bl BK.out;have hbe:Below w.heap.size w w1:=((Below.refl w.heap.size w).alloc (Nl _) _).trans (hb.mono (by simp));replace hbe:=Az hbe;have c0:w1.cell? ⟨w.heap.size,0,none⟩=some (.int .i64 20):=(Bc BK.out 0).trans rfl;have c1:w1.cell? ⟨w.heap.size,1,none⟩=some (.int .i64 d):=(Bc BK.out 1).trans rfl;have c2:w1.cell? ⟨w.heap.size,2,none⟩=some (.int .i64 s):=(Bc BK.out 2).trans rfl;have c3:w1.cell? ⟨w.heap.size,3,none⟩=some (.int .i64 t):=(Bc BK.out 3).trans rfl;have c4:w1.cell? ⟨w.heap.size,4,none⟩=some (.int .i64 u):=(Bc BK.out 4).trans rfl;have c5:w1.cell? ⟨w.heap.size,5,none⟩=some (.int .i64 a):=(Bc BK.out 5).trans rfl;have c6:w1.cell? ⟨w.heap.size,6,none⟩=some (.int .u32 k):=(Bc BK.out 6).trans rfl;have c7:w1.cell? ⟨w.heap.size,7,none⟩=some (.int .i64 q):=(Bc BK.out 7).trans rfl;rw[show Ak 20=[102,97,100,100] from rfl];go_wp2_with fail
 refine(At d hd _).mono ?_;rintro e w' ⟨rfl,rfl⟩;go_wp2_with fail
 refine(At s hs _).mono ?_;rintro e w' ⟨rfl,rfl⟩;go_wp2_with fail
 refine(At t ht _).mono ?_;rintro e w' ⟨rfl,rfl⟩;go_wp2_with fail
 refine(At u hu _).mono ?_;rintro e w' ⟨rfl,rfl⟩;go_wp2_with fail
 refine(At a ha _).mono ?_;rintro e w' ⟨rfl,rfl⟩;go_wp2_with fail
 go_region_held3 (fun W=>W.cell? ⟨w.heap.size,1,none⟩=some (.int .i64 d)∧W.cell? ⟨w.heap.size,5,none⟩=some (.int .i64 a)∧W.cell? ⟨w.heap.size,2,none⟩=some (.int .i64 s)∧W.cell? ⟨w.heap.size,6,none⟩=some (.int .u32 k)) (go_keep) (fail)
 cases cmp with
 |false =>
  go_wp2;go_ret;refine⟨congrArg (fun b=>Ending.returned (.bool b)) (show false=fin from ?_),?_⟩
  ·first |(rw[←hfin.out];done) |(rw[←hfin.out];simp)
  ·apply_rules [Bd,Below.setCell,Below.alloc,hbe.out]<;>first |omega |(simp;omega)
 |true =>
  go_wp2;go_ret;refine⟨congrArg (fun b=>Ending.returned (.bool b)) (show true=fin from ?_),?_⟩
  ·first |(rw[←hfin.out];done) |(rw[←hfin.out];simp)
  ·apply_rules [Bd,Below.setCell,Below.alloc,hbe.out]<;>first |omega |(simp;omega)
theorem Aam(d s t u a k q:Int)(hf:In.fits ⟨1,d,s,t,u,a,k,q⟩)(w:World):Calls Tryz.prog 118 #[In.v ⟨1,d,s,t,u,a,k,q⟩] w fun e w'=>e=.returned (.string ⟨(Bz ⟨1,d,s,t,u,a,k,q⟩).toArray⟩)∧Below w.heap.size w w':=by
 have te:Bz ⟨1,d,s,t,u,a,k,q⟩=Ak 1++((32::114::dec d)++(32::dec k)):=by
  show Go.Lib.join (Ak 1::List.flatten [[114::dec d],[dec k]]) [32]=_
  simp[BH,Go.Lib.join_one]
 obtain⟨CK,CA,wk,lk,la,CQ,ld0,ls0,lt0,lu0,lk0,la0,lq0⟩:=BY hf;have CN:=Az (fun W=>AA 1 W);have Cd:=Az (fun W=>AU hf.d.1 (Int.le_trans hf.d.2 (by decide)) W);dsimp only at Cd;have ln0:(Ak 1).length=5:=by decide
 have b2:¬9223372036854775807<(((dec d).length+1+1)+(1+(dec k).length)):=by omega
 have bn:¬9223372036854775807<(Ak 1).length+(((dec d).length+1+1)+(1+(dec k).length)):=by omega
 clear lk0 lq0 ld0 ls0 lt0 lu0 la0 ln0;have hS:=BD w 1 d s t u a k q;replace hf:=Az hf;replace te:=Az te;unfold In.v;go_enter Tryz.func118,Tryz.ntmps118;go_wp2_with fail
 go_region_held3 (fun W=>RB w W 1 d s t u a k q) (first |exact hS |exact Ad hb (by assumption))
  (first
   |(go_at_call 49;(with_reducible refine(CK.out _).mono ?_);rintro e w' ⟨rfl,hb⟩)
   |(go_at_call 49;(with_reducible refine(CA.out _).mono ?_);rintro e w' ⟨rfl,hb⟩))
 obtain⟨HA,y0,y1,y2,y3,y4,y5,y6,y7⟩:=Ad (Below.refl _ _) (by assumption);by_cases hq:0≤q;obtain⟨CQ,lq⟩:=CQ.out hq;go_wp2_with fail
 refine(CQ.out _).mono ?_;rintro e w2 ⟨rfl,hb2⟩;obtain⟨HA,y0,y1,y2,y3,y4,y5,y6,y7⟩:=Ad hb2 ⟨HA,y0,y1,y2,y3,y4,y5,y6,y7⟩;go_wp2_with fail
 rotate_left;go_wp2_with fail
 rotate_left;all_goals (
  refine(CN.out _).mono ?_;rintro e w2 ⟨rfl,hb2⟩;obtain⟨HA,y0,y1,y2,y3,y4,y5,y6,y7⟩:=Ad hb2 ⟨HA,y0,y1,y2,y3,y4,y5,y6,y7⟩;go_wp2_with fail
  refine(Cd.out _).mono ?_;rintro e w2 ⟨rfl,hb2⟩;obtain⟨HA,y0,y1,y2,y3,y4,y5,y6,y7⟩:=Ad hb2 ⟨HA,y0,y1,y2,y3,y4,y5,y6,y7⟩;go_wp2_with fail
  go_wp2;go_ret;refine⟨BJ ?_,HA.out.2⟩;rw[te.out];simp[D4,BV])
theorem Aan(d s t u a k q:Int)(hf:In.fits ⟨2,d,s,t,u,a,k,q⟩)(w:World):Calls Tryz.prog 118 #[In.v ⟨2,d,s,t,u,a,k,q⟩] w fun e w'=>e=.returned (.string ⟨(Bz ⟨2,d,s,t,u,a,k,q⟩).toArray⟩)∧Below w.heap.size w w':=by
 have te:Bz ⟨2,d,s,t,u,a,k,q⟩=Ak 2++((32::114::dec d)++(32::114::dec s)):=by
  show Go.Lib.join (Ak 2::List.flatten [[114::dec d],[114::dec s]]) [32]=_
  simp[BH,Go.Lib.join_one]
 obtain⟨CK,CA,wk,lk,la,CQ,ld0,ls0,lt0,lu0,lk0,la0,lq0⟩:=BY hf;have CN:=Az (fun W=>AA 2 W);have Cd:=Az (fun W=>AU hf.d.1 (Int.le_trans hf.d.2 (by decide)) W);have Cs:=Az (fun W=>AU hf.s.1 (Int.le_trans hf.s.2 (by decide)) W);dsimp only at Cd Cs;have ln0:(Ak 2).length=4:=by decide
 have b2:¬9223372036854775807<(((dec d).length+1+1)+((dec s).length+1+1)):=by omega
 have bn:¬9223372036854775807<(Ak 2).length+(((dec d).length+1+1)+((dec s).length+1+1)):=by omega
 clear lk0 lq0 ld0 ls0 lt0 lu0 la0 ln0;have hS:=BD w 2 d s t u a k q;replace hf:=Az hf;replace te:=Az te;unfold In.v;go_enter Tryz.func118,Tryz.ntmps118;go_wp2_with fail
 go_region_held3 (fun W=>RB w W 2 d s t u a k q) (first |exact hS |exact Ad hb (by assumption))
  (first
   |(go_at_call 49;(with_reducible refine(CK.out _).mono ?_);rintro e w' ⟨rfl,hb⟩)
   |(go_at_call 49;(with_reducible refine(CA.out _).mono ?_);rintro e w' ⟨rfl,hb⟩))
 obtain⟨HA,y0,y1,y2,y3,y4,y5,y6,y7⟩:=Ad (Below.refl _ _) (by assumption);by_cases hq:0≤q;obtain⟨CQ,lq⟩:=CQ.out hq;go_wp2_with fail
 refine(CQ.out _).mono ?_;rintro e w2 ⟨rfl,hb2⟩;obtain⟨HA,y0,y1,y2,y3,y4,y5,y6,y7⟩:=Ad hb2 ⟨HA,y0,y1,y2,y3,y4,y5,y6,y7⟩;go_wp2_with fail
 rotate_left;go_wp2_with fail
 rotate_left;all_goals (
  refine(CN.out _).mono ?_;rintro e w2 ⟨rfl,hb2⟩;obtain⟨HA,y0,y1,y2,y3,y4,y5,y6,y7⟩:=Ad hb2 ⟨HA,y0,y1,y2,y3,y4,y5,y6,y7⟩;go_wp2_with fail
  have hT:=Ad (Bd (Below.refl _ _)) ⟨HA,y0,y1,y2,y3,y4,y5,y6,y7⟩;go_region_held3 (fun W=>RB w W 2 d s t u a k q) (first |exact hT |exact Ad hb (by assumption))
   (first
    |(go_at_call 141;(with_reducible refine(Cd.out _).mono ?_);rintro e w' ⟨rfl,hb⟩)
    |(go_at_call 141;(with_reducible refine(Cs.out _).mono ?_);rintro e w' ⟨rfl,hb⟩))
  obtain⟨HA,y0,y1,y2,y3,y4,y5,y6,y7⟩:=Ad (Below.refl _ _) (by assumption);go_wp2;go_ret;refine⟨BJ ?_,HA.out.2⟩;rw[te.out];simp[D4,BV])
theorem Aao(d s t u a k q:Int)(hf:In.fits ⟨3,d,s,t,u,a,k,q⟩)(w:World):Calls Tryz.prog 118 #[In.v ⟨3,d,s,t,u,a,k,q⟩] w fun e w'=>e=.returned (.string ⟨(Bz ⟨3,d,s,t,u,a,k,q⟩).toArray⟩)∧Below w.heap.size w w':=by
 have te:Bz ⟨3,d,s,t,u,a,k,q⟩=Ak 3++(((32::114::dec d)++(32::114::dec s))++(32::dec k)):=by
  show Go.Lib.join (Ak 3::List.flatten [[114::dec d],[114::dec s],[dec k]]) [32]=_
  simp[BH,Go.Lib.join_one]
 obtain⟨CK,CA,wk,lk,la,CQ,ld0,ls0,lt0,lu0,lk0,la0,lq0⟩:=BY hf;have CN:=Az (fun W=>AA 3 W);have Cd:=Az (fun W=>AU hf.d.1 (Int.le_trans hf.d.2 (by decide)) W);have Cs:=Az (fun W=>AU hf.s.1 (Int.le_trans hf.s.2 (by decide)) W);dsimp only at Cd Cs;have ln0:(Ak 3).length=4:=by decide
 have b2:¬9223372036854775807<(((dec d).length+1+1)+((dec s).length+1+1)):=by omega
 have b3:¬9223372036854775807<((((dec d).length+1+1)+((dec s).length+1+1))+(1+(dec k).length)):=by omega
 have bn:¬9223372036854775807<(Ak 3).length+((((dec d).length+1+1)+((dec s).length+1+1))+(1+(dec k).length)):=by omega
 clear lk0 lq0 ld0 ls0 lt0 lu0 la0 ln0;have hS:=BD w 3 d s t u a k q;replace hf:=Az hf;replace te:=Az te;unfold In.v;go_enter Tryz.func118,Tryz.ntmps118;go_wp2_with fail
 go_region_held3 (fun W=>RB w W 3 d s t u a k q) (first |exact hS |exact Ad hb (by assumption))
  (first
   |(go_at_call 49;(with_reducible refine(CK.out _).mono ?_);rintro e w' ⟨rfl,hb⟩)
   |(go_at_call 49;(with_reducible refine(CA.out _).mono ?_);rintro e w' ⟨rfl,hb⟩))
 obtain⟨HA,y0,y1,y2,y3,y4,y5,y6,y7⟩:=Ad (Below.refl _ _) (by assumption);by_cases hq:0≤q;obtain⟨CQ,lq⟩:=CQ.out hq;go_wp2_with fail
 refine(CQ.out _).mono ?_;rintro e w2 ⟨rfl,hb2⟩;obtain⟨HA,y0,y1,y2,y3,y4,y5,y6,y7⟩:=Ad hb2 ⟨HA,y0,y1,y2,y3,y4,y5,y6,y7⟩;go_wp2_with fail
 rotate_left;go_wp2_with fail
 rotate_left;all_goals (
  refine(CN.out _).mono ?_;rintro e w2 ⟨rfl,hb2⟩;obtain⟨HA,y0,y1,y2,y3,y4,y5,y6,y7⟩:=Ad hb2 ⟨HA,y0,y1,y2,y3,y4,y5,y6,y7⟩;go_wp2_with fail
  have hT:=Ad (Bd (Below.refl _ _)) ⟨HA,y0,y1,y2,y3,y4,y5,y6,y7⟩;go_region_held3 (fun W=>RB w W 3 d s t u a k q) (first |exact hT |exact Ad hb (by assumption))
   (first
    |(go_at_call 141;(with_reducible refine(Cd.out _).mono ?_);rintro e w' ⟨rfl,hb⟩)
    |(go_at_call 141;(with_reducible refine(Cs.out _).mono ?_);rintro e w' ⟨rfl,hb⟩))
  obtain⟨HA,y0,y1,y2,y3,y4,y5,y6,y7⟩:=Ad (Below.refl _ _) (by assumption);go_wp2;go_ret;refine⟨BJ ?_,HA.out.2⟩;rw[te.out];simp[D4,BV])
theorem Aap(d s t u a k q:Int)(hf:In.fits ⟨4,d,s,t,u,a,k,q⟩)(w:World):Calls Tryz.prog 118 #[In.v ⟨4,d,s,t,u,a,k,q⟩] w fun e w'=>e=.returned (.string ⟨(Bz ⟨4,d,s,t,u,a,k,q⟩).toArray⟩)∧Below w.heap.size w w':=by
 have te:Bz ⟨4,d,s,t,u,a,k,q⟩=Ak 4++(((32::114::dec d)++(32::114::dec s))++(32::dec k)):=by
  show Go.Lib.join (Ak 4::List.flatten [[114::dec d],[114::dec s],[dec k]]) [32]=_
  simp[BH,Go.Lib.join_one]
 obtain⟨CK,CA,wk,lk,la,CQ,ld0,ls0,lt0,lu0,lk0,la0,lq0⟩:=BY hf;have CN:=Az (fun W=>AA 4 W);have Cd:=Az (fun W=>AU hf.d.1 (Int.le_trans hf.d.2 (by decide)) W);have Cs:=Az (fun W=>AU hf.s.1 (Int.le_trans hf.s.2 (by decide)) W);dsimp only at Cd Cs;have ln0:(Ak 4).length=4:=by decide
 have b2:¬9223372036854775807<(((dec d).length+1+1)+((dec s).length+1+1)):=by omega
 have b3:¬9223372036854775807<((((dec d).length+1+1)+((dec s).length+1+1))+(1+(dec k).length)):=by omega
 have bn:¬9223372036854775807<(Ak 4).length+((((dec d).length+1+1)+((dec s).length+1+1))+(1+(dec k).length)):=by omega
 clear lk0 lq0 ld0 ls0 lt0 lu0 la0 ln0;have hS:=BD w 4 d s t u a k q;replace hf:=Az hf;replace te:=Az te;unfold In.v;go_enter Tryz.func118,Tryz.ntmps118;go_wp2_with fail
 go_region_held3 (fun W=>RB w W 4 d s t u a k q) (first |exact hS |exact Ad hb (by assumption))
  (first
   |(go_at_call 49;(with_reducible refine(CK.out _).mono ?_);rintro e w' ⟨rfl,hb⟩)
   |(go_at_call 49;(with_reducible refine(CA.out _).mono ?_);rintro e w' ⟨rfl,hb⟩))
 obtain⟨HA,y0,y1,y2,y3,y4,y5,y6,y7⟩:=Ad (Below.refl _ _) (by assumption);by_cases hq:0≤q;obtain⟨CQ,lq⟩:=CQ.out hq;go_wp2_with fail
 refine(CQ.out _).mono ?_;rintro e w2 ⟨rfl,hb2⟩;obtain⟨HA,y0,y1,y2,y3,y4,y5,y6,y7⟩:=Ad hb2 ⟨HA,y0,y1,y2,y3,y4,y5,y6,y7⟩;go_wp2_with fail
 rotate_left;go_wp2_with fail
 rotate_left;all_goals (
  refine(CN.out _).mono ?_;rintro e w2 ⟨rfl,hb2⟩;obtain⟨HA,y0,y1,y2,y3,y4,y5,y6,y7⟩:=Ad hb2 ⟨HA,y0,y1,y2,y3,y4,y5,y6,y7⟩;go_wp2_with fail
  have hT:=Ad (Bd (Below.refl _ _)) ⟨HA,y0,y1,y2,y3,y4,y5,y6,y7⟩;go_region_held3 (fun W=>RB w W 4 d s t u a k q) (first |exact hT |exact Ad hb (by assumption))
   (first
    |(go_at_call 141;(with_reducible refine(Cd.out _).mono ?_);rintro e w' ⟨rfl,hb⟩)
    |(go_at_call 141;(with_reducible refine(Cs.out _).mono ?_);rintro e w' ⟨rfl,hb⟩))
  obtain⟨HA,y0,y1,y2,y3,y4,y5,y6,y7⟩:=Ad (Below.refl _ _) (by assumption);go_wp2;go_ret;refine⟨BJ ?_,HA.out.2⟩;rw[te.out];simp[D4,BV])
theorem Aaq(d s t u a k q:Int)(hf:In.fits ⟨5,d,s,t,u,a,k,q⟩)(w:World):Calls Tryz.prog 118 #[In.v ⟨5,d,s,t,u,a,k,q⟩] w fun e w'=>e=.returned (.string ⟨(Bz ⟨5,d,s,t,u,a,k,q⟩).toArray⟩)∧Below w.heap.size w w':=by
 have te:Bz ⟨5,d,s,t,u,a,k,q⟩=Ak 5++(((32::114::dec d)++(32::114::dec s))++(32::dec k)):=by
  show Go.Lib.join (Ak 5::List.flatten [[114::dec d],[114::dec s],[dec k]]) [32]=_
  simp[BH,Go.Lib.join_one]
 obtain⟨CK,CA,wk,lk,la,CQ,ld0,ls0,lt0,lu0,lk0,la0,lq0⟩:=BY hf;have CN:=Az (fun W=>AA 5 W);have Cd:=Az (fun W=>AU hf.d.1 (Int.le_trans hf.d.2 (by decide)) W);have Cs:=Az (fun W=>AU hf.s.1 (Int.le_trans hf.s.2 (by decide)) W);dsimp only at Cd Cs;have ln0:(Ak 5).length=3:=by decide
 have b2:¬9223372036854775807<(((dec d).length+1+1)+((dec s).length+1+1)):=by omega
 have b3:¬9223372036854775807<((((dec d).length+1+1)+((dec s).length+1+1))+(1+(dec k).length)):=by omega
 have bn:¬9223372036854775807<(Ak 5).length+((((dec d).length+1+1)+((dec s).length+1+1))+(1+(dec k).length)):=by omega
 clear lk0 lq0 ld0 ls0 lt0 lu0 la0 ln0;have hS:=BD w 5 d s t u a k q;replace hf:=Az hf;replace te:=Az te;unfold In.v;go_enter Tryz.func118,Tryz.ntmps118;go_wp2_with fail
 go_region_held3 (fun W=>RB w W 5 d s t u a k q) (first |exact hS |exact Ad hb (by assumption))
  (first
   |(go_at_call 49;(with_reducible refine(CK.out _).mono ?_);rintro e w' ⟨rfl,hb⟩)
   |(go_at_call 49;(with_reducible refine(CA.out _).mono ?_);rintro e w' ⟨rfl,hb⟩))
 obtain⟨HA,y0,y1,y2,y3,y4,y5,y6,y7⟩:=Ad (Below.refl _ _) (by assumption);by_cases hq:0≤q;obtain⟨CQ,lq⟩:=CQ.out hq;go_wp2_with fail
 refine(CQ.out _).mono ?_;rintro e w2 ⟨rfl,hb2⟩;obtain⟨HA,y0,y1,y2,y3,y4,y5,y6,y7⟩:=Ad hb2 ⟨HA,y0,y1,y2,y3,y4,y5,y6,y7⟩;go_wp2_with fail
 rotate_left;go_wp2_with fail
 rotate_left;all_goals (
  refine(CN.out _).mono ?_;rintro e w2 ⟨rfl,hb2⟩;obtain⟨HA,y0,y1,y2,y3,y4,y5,y6,y7⟩:=Ad hb2 ⟨HA,y0,y1,y2,y3,y4,y5,y6,y7⟩;go_wp2_with fail
  have hT:=Ad (Bd (Below.refl _ _)) ⟨HA,y0,y1,y2,y3,y4,y5,y6,y7⟩;go_region_held3 (fun W=>RB w W 5 d s t u a k q) (first |exact hT |exact Ad hb (by assumption))
   (first
    |(go_at_call 141;(with_reducible refine(Cd.out _).mono ?_);rintro e w' ⟨rfl,hb⟩)
    |(go_at_call 141;(with_reducible refine(Cs.out _).mono ?_);rintro e w' ⟨rfl,hb⟩))
  obtain⟨HA,y0,y1,y2,y3,y4,y5,y6,y7⟩:=Ad (Below.refl _ _) (by assumption);go_wp2;go_ret;refine⟨BJ ?_,HA.out.2⟩;rw[te.out];simp[D4,BV])
end
end Go.Proofs.YtjjpiefgdggghaaGreatDoor

/- Parts: EqInst, RefRightA. -/
import Derived.Test.YtjjpiefgdggghaaGreatDoorZ07
import Derived.Test.YtjjpiefgdggghaaGreatDoorZ02
import Derived.Test.YtjjpiefgdggghaaGreatDoorZ09
import Derived.RegionTactic
import Derived.BigRegion
import Derived.Deep.RegionHeld3
set_option linter.unusedVariables false
set_option linter.unusedSimpArgs false
set_option maxRecDepth 100000
set_option maxHeartbeats 40000000
namespace Go.Proofs.YtjjpiefgdggghaaGreatDoor
section
open Go.RowKit Go.Proofs.YtjjpiefgdggghaaGreatDoorW.PrintWords
theorem OF(d:Nat)(w:World)(x0 x1 x2 x3 x4 x5 x6 x7 y0 y1 y2 y3 y4 y5 y6 y7:Int) :
  (Op.equalIn (d+2) 114 (.agg #[.int .i64 x0,.int .i64 x1,.int .i64 x2,.int .i64 x3,.int .i64 x4,.int .i64 x5,.int .u32 x6,.int .i64 x7]) (.agg #[.int .i64 y0,.int .i64 y1,.int .i64 y2,.int .i64 y3,.int .i64 y4,.int .i64 y5,.int .u32 y6,.int .i64 y7])).run Tryz.prog w=.ok (x0==y0&&(x1==y1&&(x2==y2&&(x3==y3&&(x4==y4&&(x5==y5&&(x6==y6&&(x7==y7)))))))) w:=by
 refine Pf Tryz.underlying114 (by kernel_rfl) ?_;refine DB (by rfl) (by go_simp;rfl) (by go_simp;rfl) (by go_simp) ?_;refine DB (by rfl) (by go_simp;rfl) (by go_simp;rfl) (by go_simp) ?_;refine DB (by rfl) (by go_simp;rfl) (by go_simp;rfl) (by go_simp) ?_;refine DB (by rfl) (by go_simp;rfl) (by go_simp;rfl) (by go_simp) ?_;refine DB (by rfl) (by go_simp;rfl) (by go_simp;rfl) (by go_simp) ?_;refine DB (by rfl) (by go_simp;rfl) (by go_simp;rfl) (by go_simp) ?_;refine DB (by rfl) (by go_simp;rfl) (by go_simp;rfl) (by go_simp) ?_;exact MH (by rfl) (by go_simp;rfl) (by go_simp;rfl) (by go_simp)
theorem C0(x y:In)(w:World):(binOp .eql 114 x.v y.v).run Tryz.prog w=.ok (.bool (decide (x=y))) w:=by
 have h:=OF 9998 w x.op x.d x.s x.t x.u x.a x.k x.q y.op y.d y.s y.t y.u y.a y.k y.q;have e:decide (x=y)=(x.op==y.op&&(x.d==y.d&&(x.s==y.s&&(x.t==y.t&&(x.u==y.u&&(x.a==y.a&&(x.k==y.k&&x.q==y.q))))))):=by
  cases x;cases y;rw[Bool.eq_iff_iff];simp
 rw[e];simp only[binOp,In.v];simp[Op.equal,Op.maxDepth,h]
theorem JM(d s t u a k q places:Int)(w:World)(hd:0≤d∧d≤7)(hs:0≤s∧s≤7)(ht:0≤t∧t≤7)(hu:0≤u∧u≤7)(ha:0≤a∧a≤7)(hk:0≤k∧k≤4294967295) :
  Calls Tryz.prog 69 #[.agg #[.int .i64 1,.int .i64 d,.int .i64 s,.int .i64 t,.int .i64 u,.int .i64 a,.int .u32 k,.int .i64 q],.int .i64 places] w fun e w'=>e=.returned (.bool (Av ⟨1,d,s,t,u,a,k,q⟩ places))∧Below w.heap.size w w':=by
 rw[Mk d s t u a k q places hd hs ht hu ha hk];have keq:∀ W,(binOp .eql 114 (.agg #[.int .i64 1,.int .i64 d,.int .i64 0,.int .i64 0,.int .i64 0,.int .i64 0,.int .u32 k,.int .i64 0]) (.agg #[.int .i64 1,.int .i64 d,.int .i64 s,.int .i64 t,.int .i64 u,.int .i64 a,.int .u32 k,.int .i64 q])).run Tryz.prog W=.ok (.bool (decide ((⟨1,d,0,0,0,0,k,0⟩:In)=⟨1,d,s,t,u,a,k,q⟩))) W:=fun W=>C0 ⟨1,d,0,0,0,0,k,0⟩ ⟨1,d,s,t,u,a,k,q⟩ W
 generalize decide ((⟨1,d,0,0,0,0,k,0⟩:In)=⟨1,d,s,t,u,a,k,q⟩)=cmp at keq ⊢;generalize hfin:(cmp)=fin;replace hfin:=Az hfin;go_enter Tryz.func69,Tryz.ntmps69;go_wp2_with fail
 refine(Ao 1 _).mono ?_;rintro e w1 ⟨rfl,hb⟩;have BK:=Az (Bk hb (Bv w _));have z:w.heap.size<w1.heap.size:=Bl BK.out;have hbe:Below w.heap.size w w1:=((Below.refl w.heap.size w).alloc (Nl _) _).trans (hb.mono (by simp));replace hbe:=Az hbe;have c0:w1.cell? ⟨w.heap.size,0,none⟩=some (.int .i64 1):=(Bc BK.out 0).trans rfl;have c1:w1.cell? ⟨w.heap.size,1,none⟩=some (.int .i64 d):=(Bc BK.out 1).trans rfl;have c2:w1.cell? ⟨w.heap.size,2,none⟩=some (.int .i64 s):=(Bc BK.out 2).trans rfl;have c3:w1.cell? ⟨w.heap.size,3,none⟩=some (.int .i64 t):=(Bc BK.out 3).trans rfl;have c4:w1.cell? ⟨w.heap.size,4,none⟩=some (.int .i64 u):=(Bc BK.out 4).trans rfl;have c5:w1.cell? ⟨w.heap.size,5,none⟩=some (.int .i64 a):=(Bc BK.out 5).trans rfl;have c6:w1.cell? ⟨w.heap.size,6,none⟩=some (.int .u32 k):=(Bc BK.out 6).trans rfl;have c7:w1.cell? ⟨w.heap.size,7,none⟩=some (.int .i64 q):=(Bc BK.out 7).trans rfl;rw[show Ag 1=[99,111,110,115,116] from rfl];go_wp2_with fail
 refine(Ak d hd _).mono ?_;rintro e w' ⟨rfl,rfl⟩;go_wp2_with fail
 refine(Ak s hs _).mono ?_;rintro e w' ⟨rfl,rfl⟩;go_wp2_with fail
 refine(Ak t ht _).mono ?_;rintro e w' ⟨rfl,rfl⟩;go_wp2_with fail
 refine(Ak u hu _).mono ?_;rintro e w' ⟨rfl,rfl⟩;go_wp2_with fail
 refine(Ak a ha _).mono ?_;rintro e w' ⟨rfl,rfl⟩;go_wp2_with fail
 go_region_held3 (fun W=>W.cell? ⟨w.heap.size,1,none⟩=some (.int .i64 d)∧W.cell? ⟨w.heap.size,6,none⟩=some (.int .u32 k)) (go_keep) (fail)
 cases cmp with
 |false =>
  go_wp2;go_ret;refine⟨congrArg (fun b=>Ending.returned (.bool b)) (show false=fin from ?_),?_⟩
  ·first |(rw[←hfin.out];done) |(rw[←hfin.out];simp)
  ·apply_rules [Bd,Below.setCell,Below.alloc,hbe.out]<;>first |omega |(simp;omega)
 |true =>
  go_wp2;go_ret;refine⟨congrArg (fun b=>Ending.returned (.bool b)) (show true=fin from ?_),?_⟩
  ·first |(rw[←hfin.out];done) |(rw[←hfin.out];simp)
  ·apply_rules [Bd,Below.setCell,Below.alloc,hbe.out]<;>first |omega |(simp;omega)
theorem JN(d s t u a k q places:Int)(w:World)(hd:0≤d∧d≤7)(hs:0≤s∧s≤7)(ht:0≤t∧t≤7)(hu:0≤u∧u≤7)(ha:0≤a∧a≤7)(hk:0≤k∧k≤4294967295) :
  Calls Tryz.prog 69 #[.agg #[.int .i64 2,.int .i64 d,.int .i64 s,.int .i64 t,.int .i64 u,.int .i64 a,.int .u32 k,.int .i64 q],.int .i64 places] w fun e w'=>e=.returned (.bool (Av ⟨2,d,s,t,u,a,k,q⟩ places))∧Below w.heap.size w w':=by
 rw[Ml d s t u a k q places hd hs ht hu ha hk];have keq:∀ W,(binOp .eql 114 (.agg #[.int .i64 2,.int .i64 d,.int .i64 s,.int .i64 0,.int .i64 0,.int .i64 0,.int .u32 0,.int .i64 0]) (.agg #[.int .i64 2,.int .i64 d,.int .i64 s,.int .i64 t,.int .i64 u,.int .i64 a,.int .u32 k,.int .i64 q])).run Tryz.prog W=.ok (.bool (decide ((⟨2,d,s,0,0,0,0,0⟩:In)=⟨2,d,s,t,u,a,k,q⟩))) W:=fun W=>C0 ⟨2,d,s,0,0,0,0,0⟩ ⟨2,d,s,t,u,a,k,q⟩ W
 generalize decide ((⟨2,d,s,0,0,0,0,0⟩:In)=⟨2,d,s,t,u,a,k,q⟩)=cmp at keq ⊢;generalize hfin:(cmp)=fin;replace hfin:=Az hfin;go_enter Tryz.func69,Tryz.ntmps69;go_wp2_with fail
 refine(Ao 2 _).mono ?_;rintro e w1 ⟨rfl,hb⟩;have BK:=Az (Bk hb (Bv w _));have z:w.heap.size<w1.heap.size:=Bl BK.out;have hbe:Below w.heap.size w w1:=((Below.refl w.heap.size w).alloc (Nl _) _).trans (hb.mono (by simp));replace hbe:=Az hbe;have c0:w1.cell? ⟨w.heap.size,0,none⟩=some (.int .i64 2):=(Bc BK.out 0).trans rfl;have c1:w1.cell? ⟨w.heap.size,1,none⟩=some (.int .i64 d):=(Bc BK.out 1).trans rfl;have c2:w1.cell? ⟨w.heap.size,2,none⟩=some (.int .i64 s):=(Bc BK.out 2).trans rfl;have c3:w1.cell? ⟨w.heap.size,3,none⟩=some (.int .i64 t):=(Bc BK.out 3).trans rfl;have c4:w1.cell? ⟨w.heap.size,4,none⟩=some (.int .i64 u):=(Bc BK.out 4).trans rfl;have c5:w1.cell? ⟨w.heap.size,5,none⟩=some (.int .i64 a):=(Bc BK.out 5).trans rfl;have c6:w1.cell? ⟨w.heap.size,6,none⟩=some (.int .u32 k):=(Bc BK.out 6).trans rfl;have c7:w1.cell? ⟨w.heap.size,7,none⟩=some (.int .i64 q):=(Bc BK.out 7).trans rfl;rw[show Ag 2=[109,111,118,101] from rfl];go_wp2_with fail
 refine(Ak d hd _).mono ?_;rintro e w' ⟨rfl,rfl⟩;go_wp2_with fail
 refine(Ak s hs _).mono ?_;rintro e w' ⟨rfl,rfl⟩;go_wp2_with fail
 refine(Ak t ht _).mono ?_;rintro e w' ⟨rfl,rfl⟩;go_wp2_with fail
 refine(Ak u hu _).mono ?_;rintro e w' ⟨rfl,rfl⟩;go_wp2_with fail
 refine(Ak a ha _).mono ?_;rintro e w' ⟨rfl,rfl⟩;go_wp2_with fail
 go_region_held3 (fun W=>W.cell? ⟨w.heap.size,1,none⟩=some (.int .i64 d)∧W.cell? ⟨w.heap.size,2,none⟩=some (.int .i64 s)) (go_keep) (fail)
 cases cmp with
 |false =>
  go_wp2;go_ret;refine⟨congrArg (fun b=>Ending.returned (.bool b)) (show false=fin from ?_),?_⟩
  ·first |(rw[←hfin.out];done) |(rw[←hfin.out];simp)
  ·apply_rules [Bd,Below.setCell,Below.alloc,hbe.out]<;>first |omega |(simp;omega)
 |true =>
  go_wp2;go_ret;refine⟨congrArg (fun b=>Ending.returned (.bool b)) (show true=fin from ?_),?_⟩
  ·first |(rw[←hfin.out];done) |(rw[←hfin.out];simp)
  ·apply_rules [Bd,Below.setCell,Below.alloc,hbe.out]<;>first |omega |(simp;omega)
theorem JO(d s t u a k q places:Int)(w:World)(hd:0≤d∧d≤7)(hs:0≤s∧s≤7)(ht:0≤t∧t≤7)(hu:0≤u∧u≤7)(ha:0≤a∧a≤7)(hk:0≤k∧k≤4294967295) :
  Calls Tryz.prog 69 #[.agg #[.int .i64 3,.int .i64 d,.int .i64 s,.int .i64 t,.int .i64 u,.int .i64 a,.int .u32 k,.int .i64 q],.int .i64 places] w fun e w'=>e=.returned (.bool (Av ⟨3,d,s,t,u,a,k,q⟩ places))∧Below w.heap.size w w':=by
 rw[Mm d s t u a k q places hd hs ht hu ha hk];have keq:∀ W,(binOp .eql 114 (.agg #[.int .i64 3,.int .i64 d,.int .i64 s,.int .i64 0,.int .i64 0,.int .i64 0,.int .u32 k,.int .i64 0]) (.agg #[.int .i64 3,.int .i64 d,.int .i64 s,.int .i64 t,.int .i64 u,.int .i64 a,.int .u32 k,.int .i64 q])).run Tryz.prog W=.ok (.bool (decide ((⟨3,d,s,0,0,0,k,0⟩:In)=⟨3,d,s,t,u,a,k,q⟩))) W:=fun W=>C0 ⟨3,d,s,0,0,0,k,0⟩ ⟨3,d,s,t,u,a,k,q⟩ W
 generalize decide ((⟨3,d,s,0,0,0,k,0⟩:In)=⟨3,d,s,t,u,a,k,q⟩)=cmp at keq ⊢;generalize hfin:(cmp)=fin;replace hfin:=Az hfin;go_enter Tryz.func69,Tryz.ntmps69;go_wp2_with fail
 refine(Ao 3 _).mono ?_;rintro e w1 ⟨rfl,hb⟩;have BK:=Az (Bk hb (Bv w _));have z:w.heap.size<w1.heap.size:=Bl BK.out;have hbe:Below w.heap.size w w1:=((Below.refl w.heap.size w).alloc (Nl _) _).trans (hb.mono (by simp));replace hbe:=Az hbe;have c0:w1.cell? ⟨w.heap.size,0,none⟩=some (.int .i64 3):=(Bc BK.out 0).trans rfl;have c1:w1.cell? ⟨w.heap.size,1,none⟩=some (.int .i64 d):=(Bc BK.out 1).trans rfl;have c2:w1.cell? ⟨w.heap.size,2,none⟩=some (.int .i64 s):=(Bc BK.out 2).trans rfl;have c3:w1.cell? ⟨w.heap.size,3,none⟩=some (.int .i64 t):=(Bc BK.out 3).trans rfl;have c4:w1.cell? ⟨w.heap.size,4,none⟩=some (.int .i64 u):=(Bc BK.out 4).trans rfl;have c5:w1.cell? ⟨w.heap.size,5,none⟩=some (.int .i64 a):=(Bc BK.out 5).trans rfl;have c6:w1.cell? ⟨w.heap.size,6,none⟩=some (.int .u32 k):=(Bc BK.out 6).trans rfl;have c7:w1.cell? ⟨w.heap.size,7,none⟩=some (.int .i64 q):=(Bc BK.out 7).trans rfl;rw[show Ag 3=[97,100,100,107] from rfl];go_wp2_with fail
 refine(Ak d hd _).mono ?_;rintro e w' ⟨rfl,rfl⟩;go_wp2_with fail
 refine(Ak s hs _).mono ?_;rintro e w' ⟨rfl,rfl⟩;go_wp2_with fail
 refine(Ak t ht _).mono ?_;rintro e w' ⟨rfl,rfl⟩;go_wp2_with fail
 refine(Ak u hu _).mono ?_;rintro e w' ⟨rfl,rfl⟩;go_wp2_with fail
 refine(Ak a ha _).mono ?_;rintro e w' ⟨rfl,rfl⟩;go_wp2_with fail
 go_region_held3 (fun W=>W.cell? ⟨w.heap.size,1,none⟩=some (.int .i64 d)∧W.cell? ⟨w.heap.size,2,none⟩=some (.int .i64 s)∧W.cell? ⟨w.heap.size,6,none⟩=some (.int .u32 k)) (go_keep) (fail)
 cases cmp with
 |false =>
  go_wp2;go_ret;refine⟨congrArg (fun b=>Ending.returned (.bool b)) (show false=fin from ?_),?_⟩
  ·first |(rw[←hfin.out];done) |(rw[←hfin.out];simp)
  ·apply_rules [Bd,Below.setCell,Below.alloc,hbe.out]<;>first |omega |(simp;omega)
 |true =>
  go_wp2;go_ret;refine⟨congrArg (fun b=>Ending.returned (.bool b)) (show true=fin from ?_),?_⟩
  ·first |(rw[←hfin.out];done) |(rw[←hfin.out];simp)
  ·apply_rules [Bd,Below.setCell,Below.alloc,hbe.out]<;>first |omega |(simp;omega)
theorem JP(d s t u a k q places:Int)(w:World)(hd:0≤d∧d≤7)(hs:0≤s∧s≤7)(ht:0≤t∧t≤7)(hu:0≤u∧u≤7)(ha:0≤a∧a≤7)(hk:0≤k∧k≤4294967295) :
  Calls Tryz.prog 69 #[.agg #[.int .i64 4,.int .i64 d,.int .i64 s,.int .i64 t,.int .i64 u,.int .i64 a,.int .u32 k,.int .i64 q],.int .i64 places] w fun e w'=>e=.returned (.bool (Av ⟨4,d,s,t,u,a,k,q⟩ places))∧Below w.heap.size w w':=by
 rw[Mn d s t u a k q places hd hs ht hu ha hk];have keq:∀ W,(binOp .eql 114 (.agg #[.int .i64 4,.int .i64 d,.int .i64 s,.int .i64 0,.int .i64 0,.int .i64 0,.int .u32 k,.int .i64 0]) (.agg #[.int .i64 4,.int .i64 d,.int .i64 s,.int .i64 t,.int .i64 u,.int .i64 a,.int .u32 k,.int .i64 q])).run Tryz.prog W=.ok (.bool (decide ((⟨4,d,s,0,0,0,k,0⟩:In)=⟨4,d,s,t,u,a,k,q⟩))) W:=fun W=>C0 ⟨4,d,s,0,0,0,k,0⟩ ⟨4,d,s,t,u,a,k,q⟩ W
 generalize decide ((⟨4,d,s,0,0,0,k,0⟩:In)=⟨4,d,s,t,u,a,k,q⟩)=cmp at keq ⊢;generalize hfin:(cmp)=fin;replace hfin:=Az hfin;go_enter Tryz.func69,Tryz.ntmps69;go_wp2_with fail
 refine(Ao 4 _).mono ?_;rintro e w1 ⟨rfl,hb⟩;have BK:=Az (Bk hb (Bv w _));have z:w.heap.size<w1.heap.size:=Bl BK.out;have hbe:Below w.heap.size w w1:=((Below.refl w.heap.size w).alloc (Nl _) _).trans (hb.mono (by simp));replace hbe:=Az hbe;have c0:w1.cell? ⟨w.heap.size,0,none⟩=some (.int .i64 4):=(Bc BK.out 0).trans rfl;have c1:w1.cell? ⟨w.heap.size,1,none⟩=some (.int .i64 d):=(Bc BK.out 1).trans rfl;have c2:w1.cell? ⟨w.heap.size,2,none⟩=some (.int .i64 s):=(Bc BK.out 2).trans rfl;have c3:w1.cell? ⟨w.heap.size,3,none⟩=some (.int .i64 t):=(Bc BK.out 3).trans rfl;have c4:w1.cell? ⟨w.heap.size,4,none⟩=some (.int .i64 u):=(Bc BK.out 4).trans rfl;have c5:w1.cell? ⟨w.heap.size,5,none⟩=some (.int .i64 a):=(Bc BK.out 5).trans rfl;have c6:w1.cell? ⟨w.heap.size,6,none⟩=some (.int .u32 k):=(Bc BK.out 6).trans rfl;have c7:w1.cell? ⟨w.heap.size,7,none⟩=some (.int .i64 q):=(Bc BK.out 7).trans rfl;rw[show Ag 4=[97,110,100,107] from rfl];go_wp2_with fail
 refine(Ak d hd _).mono ?_;rintro e w' ⟨rfl,rfl⟩;go_wp2_with fail
 refine(Ak s hs _).mono ?_;rintro e w' ⟨rfl,rfl⟩;go_wp2_with fail
 refine(Ak t ht _).mono ?_;rintro e w' ⟨rfl,rfl⟩;go_wp2_with fail
 refine(Ak u hu _).mono ?_;rintro e w' ⟨rfl,rfl⟩;go_wp2_with fail
 refine(Ak a ha _).mono ?_;rintro e w' ⟨rfl,rfl⟩;go_wp2_with fail
 go_region_held3 (fun W=>W.cell? ⟨w.heap.size,1,none⟩=some (.int .i64 d)∧W.cell? ⟨w.heap.size,2,none⟩=some (.int .i64 s)∧W.cell? ⟨w.heap.size,6,none⟩=some (.int .u32 k)) (go_keep) (fail)
 cases cmp with
 |false =>
  go_wp2;go_ret;refine⟨congrArg (fun b=>Ending.returned (.bool b)) (show false=fin from ?_),?_⟩
  ·first |(rw[←hfin.out];done) |(rw[←hfin.out];simp)
  ·apply_rules [Bd,Below.setCell,Below.alloc,hbe.out]<;>first |omega |(simp;omega)
 |true =>
  go_wp2;go_ret;refine⟨congrArg (fun b=>Ending.returned (.bool b)) (show true=fin from ?_),?_⟩
  ·first |(rw[←hfin.out];done) |(rw[←hfin.out];simp)
  ·apply_rules [Bd,Below.setCell,Below.alloc,hbe.out]<;>first |omega |(simp;omega)
theorem JQ(d s t u a k q places:Int)(w:World)(hd:0≤d∧d≤7)(hs:0≤s∧s≤7)(ht:0≤t∧t≤7)(hu:0≤u∧u≤7)(ha:0≤a∧a≤7)(hk:0≤k∧k≤4294967295) :
  Calls Tryz.prog 69 #[.agg #[.int .i64 5,.int .i64 d,.int .i64 s,.int .i64 t,.int .i64 u,.int .i64 a,.int .u32 k,.int .i64 q],.int .i64 places] w fun e w'=>e=.returned (.bool (Av ⟨5,d,s,t,u,a,k,q⟩ places))∧Below w.heap.size w w':=by
 rw[Mo d s t u a k q places hd hs ht hu ha hk];have keq:∀ W,(binOp .eql 114 (.agg #[.int .i64 5,.int .i64 d,.int .i64 s,.int .i64 0,.int .i64 0,.int .i64 0,.int .u32 k,.int .i64 0]) (.agg #[.int .i64 5,.int .i64 d,.int .i64 s,.int .i64 t,.int .i64 u,.int .i64 a,.int .u32 k,.int .i64 q])).run Tryz.prog W=.ok (.bool (decide ((⟨5,d,s,0,0,0,k,0⟩:In)=⟨5,d,s,t,u,a,k,q⟩))) W:=fun W=>C0 ⟨5,d,s,0,0,0,k,0⟩ ⟨5,d,s,t,u,a,k,q⟩ W
 generalize decide ((⟨5,d,s,0,0,0,k,0⟩:In)=⟨5,d,s,t,u,a,k,q⟩)=cmp at keq ⊢;generalize hfin:(!decide (31<k)&&cmp)=fin;replace hfin:=Az hfin;go_enter Tryz.func69,Tryz.ntmps69;go_wp2_with fail
 refine(Ao 5 _).mono ?_;rintro e w1 ⟨rfl,hb⟩;have BK:=Az (Bk hb (Bv w _));have z:w.heap.size<w1.heap.size:=Bl BK.out;have hbe:Below w.heap.size w w1:=((Below.refl w.heap.size w).alloc (Nl _) _).trans (hb.mono (by simp));replace hbe:=Az hbe;have c0:w1.cell? ⟨w.heap.size,0,none⟩=some (.int .i64 5):=(Bc BK.out 0).trans rfl;have c1:w1.cell? ⟨w.heap.size,1,none⟩=some (.int .i64 d):=(Bc BK.out 1).trans rfl;have c2:w1.cell? ⟨w.heap.size,2,none⟩=some (.int .i64 s):=(Bc BK.out 2).trans rfl;have c3:w1.cell? ⟨w.heap.size,3,none⟩=some (.int .i64 t):=(Bc BK.out 3).trans rfl;have c4:w1.cell? ⟨w.heap.size,4,none⟩=some (.int .i64 u):=(Bc BK.out 4).trans rfl;have c5:w1.cell? ⟨w.heap.size,5,none⟩=some (.int .i64 a):=(Bc BK.out 5).trans rfl;have c6:w1.cell? ⟨w.heap.size,6,none⟩=some (.int .u32 k):=(Bc BK.out 6).trans rfl;have c7:w1.cell? ⟨w.heap.size,7,none⟩=some (.int .i64 q):=(Bc BK.out 7).trans rfl;rw[show Ag 5=[115,104,108] from rfl];go_wp2_with fail
 refine(Ak d hd _).mono ?_;rintro e w' ⟨rfl,rfl⟩;go_wp2_with fail
 refine(Ak s hs _).mono ?_;rintro e w' ⟨rfl,rfl⟩;go_wp2_with fail
 refine(Ak t ht _).mono ?_;rintro e w' ⟨rfl,rfl⟩;go_wp2_with fail
 refine(Ak u hu _).mono ?_;rintro e w' ⟨rfl,rfl⟩;go_wp2_with fail
 refine(Ak a ha _).mono ?_;rintro e w' ⟨rfl,rfl⟩;go_wp2_with fail
 go_region_held3 (fun W=>W.cell? ⟨w.heap.size,1,none⟩=some (.int .i64 d)∧W.cell? ⟨w.heap.size,2,none⟩=some (.int .i64 s)∧W.cell? ⟨w.heap.size,6,none⟩=some (.int .u32 k)) (go_keep) (fail)
 by_cases h0:31<k
 ·skip
  go_wp2;go_ret;refine⟨congrArg (fun b=>Ending.returned (.bool b)) (show false=fin from ?_),?_⟩
  ·first |(rw[←hfin.out];done) |(rw[←hfin.out];simp[h0])
  ·apply_rules [Bd,Below.setCell,Below.alloc,hbe.out]<;>first |omega |(simp;omega)
 cases cmp with
 |false =>
  go_wp2;go_ret;refine⟨congrArg (fun b=>Ending.returned (.bool b)) (show false=fin from ?_),?_⟩
  ·first |(rw[←hfin.out];done) |(rw[←hfin.out];simp)
  ·apply_rules [Bd,Below.setCell,Below.alloc,hbe.out]<;>first |omega |(simp;omega)
 |true =>
  go_wp2;go_ret;refine⟨congrArg (fun b=>Ending.returned (.bool b)) (show true=fin from ?_),?_⟩
  ·first |(rw[←hfin.out];done) |(rw[←hfin.out];simp[h0])
  ·apply_rules [Bd,Below.setCell,Below.alloc,hbe.out]<;>first |omega |(simp;omega)
theorem JR(d s t u a k q places:Int)(w:World)(hd:0≤d∧d≤7)(hs:0≤s∧s≤7)(ht:0≤t∧t≤7)(hu:0≤u∧u≤7)(ha:0≤a∧a≤7)(hk:0≤k∧k≤4294967295) :
  Calls Tryz.prog 69 #[.agg #[.int .i64 6,.int .i64 d,.int .i64 s,.int .i64 t,.int .i64 u,.int .i64 a,.int .u32 k,.int .i64 q],.int .i64 places] w fun e w'=>e=.returned (.bool (Av ⟨6,d,s,t,u,a,k,q⟩ places))∧Below w.heap.size w w':=by
 rw[Mp d s t u a k q places hd hs ht hu ha hk];have keq:∀ W,(binOp .eql 114 (.agg #[.int .i64 6,.int .i64 d,.int .i64 s,.int .i64 0,.int .i64 0,.int .i64 0,.int .u32 k,.int .i64 0]) (.agg #[.int .i64 6,.int .i64 d,.int .i64 s,.int .i64 t,.int .i64 u,.int .i64 a,.int .u32 k,.int .i64 q])).run Tryz.prog W=.ok (.bool (decide ((⟨6,d,s,0,0,0,k,0⟩:In)=⟨6,d,s,t,u,a,k,q⟩))) W:=fun W=>C0 ⟨6,d,s,0,0,0,k,0⟩ ⟨6,d,s,t,u,a,k,q⟩ W
 generalize decide ((⟨6,d,s,0,0,0,k,0⟩:In)=⟨6,d,s,t,u,a,k,q⟩)=cmp at keq ⊢;generalize hfin:(!decide (31<k)&&cmp)=fin;replace hfin:=Az hfin;go_enter Tryz.func69,Tryz.ntmps69;go_wp2_with fail
 refine(Ao 6 _).mono ?_;rintro e w1 ⟨rfl,hb⟩;have BK:=Az (Bk hb (Bv w _));have z:w.heap.size<w1.heap.size:=Bl BK.out;have hbe:Below w.heap.size w w1:=((Below.refl w.heap.size w).alloc (Nl _) _).trans (hb.mono (by simp));replace hbe:=Az hbe;have c0:w1.cell? ⟨w.heap.size,0,none⟩=some (.int .i64 6):=(Bc BK.out 0).trans rfl;have c1:w1.cell? ⟨w.heap.size,1,none⟩=some (.int .i64 d):=(Bc BK.out 1).trans rfl;have c2:w1.cell? ⟨w.heap.size,2,none⟩=some (.int .i64 s):=(Bc BK.out 2).trans rfl;have c3:w1.cell? ⟨w.heap.size,3,none⟩=some (.int .i64 t):=(Bc BK.out 3).trans rfl;have c4:w1.cell? ⟨w.heap.size,4,none⟩=some (.int .i64 u):=(Bc BK.out 4).trans rfl;have c5:w1.cell? ⟨w.heap.size,5,none⟩=some (.int .i64 a):=(Bc BK.out 5).trans rfl;have c6:w1.cell? ⟨w.heap.size,6,none⟩=some (.int .u32 k):=(Bc BK.out 6).trans rfl;have c7:w1.cell? ⟨w.heap.size,7,none⟩=some (.int .i64 q):=(Bc BK.out 7).trans rfl;rw[show Ag 6=[115,104,114] from rfl];go_wp2_with fail
 refine(Ak d hd _).mono ?_;rintro e w' ⟨rfl,rfl⟩;go_wp2_with fail
 refine(Ak s hs _).mono ?_;rintro e w' ⟨rfl,rfl⟩;go_wp2_with fail
 refine(Ak t ht _).mono ?_;rintro e w' ⟨rfl,rfl⟩;go_wp2_with fail
 refine(Ak u hu _).mono ?_;rintro e w' ⟨rfl,rfl⟩;go_wp2_with fail
 refine(Ak a ha _).mono ?_;rintro e w' ⟨rfl,rfl⟩;go_wp2_with fail
 go_region_held3 (fun W=>W.cell? ⟨w.heap.size,1,none⟩=some (.int .i64 d)∧W.cell? ⟨w.heap.size,2,none⟩=some (.int .i64 s)∧W.cell? ⟨w.heap.size,6,none⟩=some (.int .u32 k)) (go_keep) (fail)
 by_cases h0:31<k
 ·skip
  go_wp2;go_ret;refine⟨congrArg (fun b=>Ending.returned (.bool b)) (show false=fin from ?_),?_⟩
  ·first |(rw[←hfin.out];done) |(rw[←hfin.out];simp[h0])
  ·apply_rules [Bd,Below.setCell,Below.alloc,hbe.out]<;>first |omega |(simp;omega)
 cases cmp with
 |false =>
  go_wp2;go_ret;refine⟨congrArg (fun b=>Ending.returned (.bool b)) (show false=fin from ?_),?_⟩
  ·first |(rw[←hfin.out];done) |(rw[←hfin.out];simp)
  ·apply_rules [Bd,Below.setCell,Below.alloc,hbe.out]<;>first |omega |(simp;omega)
 |true =>
  go_wp2;go_ret;refine⟨congrArg (fun b=>Ending.returned (.bool b)) (show true=fin from ?_),?_⟩
  ·first |(rw[←hfin.out];done) |(rw[←hfin.out];simp[h0])
  ·apply_rules [Bd,Below.setCell,Below.alloc,hbe.out]<;>first |omega |(simp;omega)
theorem JS(d s t u a k q places:Int)(w:World)(hd:0≤d∧d≤7)(hs:0≤s∧s≤7)(ht:0≤t∧t≤7)(hu:0≤u∧u≤7)(ha:0≤a∧a≤7)(hk:0≤k∧k≤4294967295) :
  Calls Tryz.prog 69 #[.agg #[.int .i64 7,.int .i64 d,.int .i64 s,.int .i64 t,.int .i64 u,.int .i64 a,.int .u32 k,.int .i64 q],.int .i64 places] w fun e w'=>e=.returned (.bool (Av ⟨7,d,s,t,u,a,k,q⟩ places))∧Below w.heap.size w w':=by
 rw[Mq d s t u a k q places hd hs ht hu ha hk];have keq:∀ W,(binOp .eql 114 (.agg #[.int .i64 7,.int .i64 d,.int .i64 s,.int .i64 t,.int .i64 0,.int .i64 0,.int .u32 0,.int .i64 0]) (.agg #[.int .i64 7,.int .i64 d,.int .i64 s,.int .i64 t,.int .i64 u,.int .i64 a,.int .u32 k,.int .i64 q])).run Tryz.prog W=.ok (.bool (decide ((⟨7,d,s,t,0,0,0,0⟩:In)=⟨7,d,s,t,u,a,k,q⟩))) W:=fun W=>C0 ⟨7,d,s,t,0,0,0,0⟩ ⟨7,d,s,t,u,a,k,q⟩ W
 generalize decide ((⟨7,d,s,t,0,0,0,0⟩:In)=⟨7,d,s,t,u,a,k,q⟩)=cmp at keq ⊢;generalize hfin:(cmp)=fin;replace hfin:=Az hfin;go_enter Tryz.func69,Tryz.ntmps69;go_wp2_with fail
 refine(Ao 7 _).mono ?_;rintro e w1 ⟨rfl,hb⟩;have BK:=Az (Bk hb (Bv w _));have z:w.heap.size<w1.heap.size:=Bl BK.out;have hbe:Below w.heap.size w w1:=((Below.refl w.heap.size w).alloc (Nl _) _).trans (hb.mono (by simp));replace hbe:=Az hbe;have c0:w1.cell? ⟨w.heap.size,0,none⟩=some (.int .i64 7):=(Bc BK.out 0).trans rfl;have c1:w1.cell? ⟨w.heap.size,1,none⟩=some (.int .i64 d):=(Bc BK.out 1).trans rfl;have c2:w1.cell? ⟨w.heap.size,2,none⟩=some (.int .i64 s):=(Bc BK.out 2).trans rfl;have c3:w1.cell? ⟨w.heap.size,3,none⟩=some (.int .i64 t):=(Bc BK.out 3).trans rfl;have c4:w1.cell? ⟨w.heap.size,4,none⟩=some (.int .i64 u):=(Bc BK.out 4).trans rfl;have c5:w1.cell? ⟨w.heap.size,5,none⟩=some (.int .i64 a):=(Bc BK.out 5).trans rfl;have c6:w1.cell? ⟨w.heap.size,6,none⟩=some (.int .u32 k):=(Bc BK.out 6).trans rfl;have c7:w1.cell? ⟨w.heap.size,7,none⟩=some (.int .i64 q):=(Bc BK.out 7).trans rfl;rw[show Ag 7=[111,114] from rfl];go_wp2_with fail
 refine(Ak d hd _).mono ?_;rintro e w' ⟨rfl,rfl⟩;go_wp2_with fail
 refine(Ak s hs _).mono ?_;rintro e w' ⟨rfl,rfl⟩;go_wp2_with fail
 refine(Ak t ht _).mono ?_;rintro e w' ⟨rfl,rfl⟩;go_wp2_with fail
 refine(Ak u hu _).mono ?_;rintro e w' ⟨rfl,rfl⟩;go_wp2_with fail
 refine(Ak a ha _).mono ?_;rintro e w' ⟨rfl,rfl⟩;go_wp2_with fail
 go_region_held3 (fun W=>W.cell? ⟨w.heap.size,1,none⟩=some (.int .i64 d)∧W.cell? ⟨w.heap.size,2,none⟩=some (.int .i64 s)∧W.cell? ⟨w.heap.size,3,none⟩=some (.int .i64 t)) (go_keep) (fail)
 cases cmp with
 |false =>
  go_wp2;go_ret;refine⟨congrArg (fun b=>Ending.returned (.bool b)) (show false=fin from ?_),?_⟩
  ·first |(rw[←hfin.out];done) |(rw[←hfin.out];simp)
  ·apply_rules [Bd,Below.setCell,Below.alloc,hbe.out]<;>first |omega |(simp;omega)
 |true =>
  go_wp2;go_ret;refine⟨congrArg (fun b=>Ending.returned (.bool b)) (show true=fin from ?_),?_⟩
  ·first |(rw[←hfin.out];done) |(rw[←hfin.out];simp)
  ·apply_rules [Bd,Below.setCell,Below.alloc,hbe.out]<;>first |omega |(simp;omega)
end
end Go.Proofs.YtjjpiefgdggghaaGreatDoor

/- Parts: RefRightA, RefTextD. -/
import Derived.Test.YtjjpiefgdggghaaGreatDoorK05
import Derived.Test.YtjjpiefgdggghaaGreatDoorK12
import Derived.Test.YtjjpiefgdggghaaGreatDoorK14
import Derived.RegionTactic
import Derived.BigRegion
import Derived.Deep.RegionHeld3
import Derived.Test.YtjjpiefgdggghaaGreatDoorK22
set_option linter.unusedVariables false
set_option linter.unusedSimpArgs false
set_option maxRecDepth 100000
set_option maxHeartbeats 40000000
namespace Go.Proofs.YtjjpiefgdggghaaGreatDoor
section
open Go.RowKit Go.Proofs.YtjjpiefgdggghaaGreatDoorW.PrintWords
theorem QT(d s t u a k q places:Int)(w:World)(hd:0≤d∧d≤7)(hs:0≤s∧s≤7)(ht:0≤t∧t≤7)(hu:0≤u∧u≤7)(ha:0≤a∧a≤7)(hk:0≤k∧k≤4294967295) :
  Calls Tryz.prog 69 #[.agg #[.int .i64 1,.int .i64 d,.int .i64 s,.int .i64 t,.int .i64 u,.int .i64 a,.int .u32 k,.int .i64 q],.int .i64 places] w fun e w'=>e=.returned (.bool (AN ⟨1,d,s,t,u,a,k,q⟩ places))∧Below w.heap.size w w':=by
 rw[U9 d s t u a k q places hd hs ht hu ha hk];have keq:∀ W,(binOp .eql 114 (.agg #[.int .i64 1,.int .i64 d,.int .i64 0,.int .i64 0,.int .i64 0,.int .i64 0,.int .u32 k,.int .i64 0]) (.agg #[.int .i64 1,.int .i64 d,.int .i64 s,.int .i64 t,.int .i64 u,.int .i64 a,.int .u32 k,.int .i64 q])).run Tryz.prog W=.ok (.bool (decide ((⟨1,d,0,0,0,0,k,0⟩:In)=⟨1,d,s,t,u,a,k,q⟩))) W:=fun W=>DQ ⟨1,d,0,0,0,0,k,0⟩ ⟨1,d,s,t,u,a,k,q⟩ W
 generalize decide ((⟨1,d,0,0,0,0,k,0⟩:In)=⟨1,d,s,t,u,a,k,q⟩)=cmp at keq ⊢;generalize hfin:(cmp)=fin;replace hfin:=Az hfin;go_enter Tryz.func69,Tryz.ntmps69;go_wp2_with fail
 refine(AA 1 _).mono ?_;rintro e w1 ⟨rfl,hb⟩;have BK:=Az (Bk hb (Bv w _));have z:w.heap.size<w1.heap.size:=Bl BK.out;have hbe:Below w.heap.size w w1:=((Below.refl w.heap.size w).alloc (Nl _) _).trans (hb.mono (by simp));replace hbe:=Az hbe;have c0:w1.cell? ⟨w.heap.size,0,none⟩=some (.int .i64 1):=(Bc BK.out 0).trans rfl;have c1:w1.cell? ⟨w.heap.size,1,none⟩=some (.int .i64 d):=(Bc BK.out 1).trans rfl;have c2:w1.cell? ⟨w.heap.size,2,none⟩=some (.int .i64 s):=(Bc BK.out 2).trans rfl;have c3:w1.cell? ⟨w.heap.size,3,none⟩=some (.int .i64 t):=(Bc BK.out 3).trans rfl;have c4:w1.cell? ⟨w.heap.size,4,none⟩=some (.int .i64 u):=(Bc BK.out 4).trans rfl;have c5:w1.cell? ⟨w.heap.size,5,none⟩=some (.int .i64 a):=(Bc BK.out 5).trans rfl;have c6:w1.cell? ⟨w.heap.size,6,none⟩=some (.int .u32 k):=(Bc BK.out 6).trans rfl;have c7:w1.cell? ⟨w.heap.size,7,none⟩=some (.int .i64 q):=(Bc BK.out 7).trans rfl;rw[show Ak 1=[99,111,110,115,116] from rfl];go_wp2_with fail
 refine(At d hd _).mono ?_;rintro e w' ⟨rfl,rfl⟩;go_wp2_with fail
 refine(At s hs _).mono ?_;rintro e w' ⟨rfl,rfl⟩;go_wp2_with fail
 refine(At t ht _).mono ?_;rintro e w' ⟨rfl,rfl⟩;go_wp2_with fail
 refine(At u hu _).mono ?_;rintro e w' ⟨rfl,rfl⟩;go_wp2_with fail
 refine(At a ha _).mono ?_;rintro e w' ⟨rfl,rfl⟩;go_wp2_with fail
 go_region_held3 (fun W=>W.cell? ⟨w.heap.size,1,none⟩=some (.int .i64 d)∧W.cell? ⟨w.heap.size,6,none⟩=some (.int .u32 k)) (go_keep) (fail)
 cases cmp with
 |false =>
  go_wp2;go_ret;refine⟨congrArg (fun b=>Ending.returned (.bool b)) (show false=fin from ?_),?_⟩
  ·first |(rw[←hfin.out];done) |(rw[←hfin.out];simp)
  ·apply_rules [Bd,Below.setCell,Below.alloc,hbe.out]<;>first |omega |(simp;omega)
 |true =>
  go_wp2;go_ret;refine⟨congrArg (fun b=>Ending.returned (.bool b)) (show true=fin from ?_),?_⟩
  ·first |(rw[←hfin.out];done) |(rw[←hfin.out];simp)
  ·apply_rules [Bd,Below.setCell,Below.alloc,hbe.out]<;>first |omega |(simp;omega)
theorem QU(d s t u a k q places:Int)(w:World)(hd:0≤d∧d≤7)(hs:0≤s∧s≤7)(ht:0≤t∧t≤7)(hu:0≤u∧u≤7)(ha:0≤a∧a≤7)(hk:0≤k∧k≤4294967295) :
  Calls Tryz.prog 69 #[.agg #[.int .i64 2,.int .i64 d,.int .i64 s,.int .i64 t,.int .i64 u,.int .i64 a,.int .u32 k,.int .i64 q],.int .i64 places] w fun e w'=>e=.returned (.bool (AN ⟨2,d,s,t,u,a,k,q⟩ places))∧Below w.heap.size w w':=by
 rw[UA d s t u a k q places hd hs ht hu ha hk];have keq:∀ W,(binOp .eql 114 (.agg #[.int .i64 2,.int .i64 d,.int .i64 s,.int .i64 0,.int .i64 0,.int .i64 0,.int .u32 0,.int .i64 0]) (.agg #[.int .i64 2,.int .i64 d,.int .i64 s,.int .i64 t,.int .i64 u,.int .i64 a,.int .u32 k,.int .i64 q])).run Tryz.prog W=.ok (.bool (decide ((⟨2,d,s,0,0,0,0,0⟩:In)=⟨2,d,s,t,u,a,k,q⟩))) W:=fun W=>DQ ⟨2,d,s,0,0,0,0,0⟩ ⟨2,d,s,t,u,a,k,q⟩ W
 generalize decide ((⟨2,d,s,0,0,0,0,0⟩:In)=⟨2,d,s,t,u,a,k,q⟩)=cmp at keq ⊢;generalize hfin:(cmp)=fin;replace hfin:=Az hfin;go_enter Tryz.func69,Tryz.ntmps69;go_wp2_with fail
 refine(AA 2 _).mono ?_;rintro e w1 ⟨rfl,hb⟩;have BK:=Az (Bk hb (Bv w _));have z:w.heap.size<w1.heap.size:=Bl BK.out;have hbe:Below w.heap.size w w1:=((Below.refl w.heap.size w).alloc (Nl _) _).trans (hb.mono (by simp));replace hbe:=Az hbe;have c0:w1.cell? ⟨w.heap.size,0,none⟩=some (.int .i64 2):=(Bc BK.out 0).trans rfl;have c1:w1.cell? ⟨w.heap.size,1,none⟩=some (.int .i64 d):=(Bc BK.out 1).trans rfl;have c2:w1.cell? ⟨w.heap.size,2,none⟩=some (.int .i64 s):=(Bc BK.out 2).trans rfl;have c3:w1.cell? ⟨w.heap.size,3,none⟩=some (.int .i64 t):=(Bc BK.out 3).trans rfl;have c4:w1.cell? ⟨w.heap.size,4,none⟩=some (.int .i64 u):=(Bc BK.out 4).trans rfl;have c5:w1.cell? ⟨w.heap.size,5,none⟩=some (.int .i64 a):=(Bc BK.out 5).trans rfl;have c6:w1.cell? ⟨w.heap.size,6,none⟩=some (.int .u32 k):=(Bc BK.out 6).trans rfl;have c7:w1.cell? ⟨w.heap.size,7,none⟩=some (.int .i64 q):=(Bc BK.out 7).trans rfl;rw[show Ak 2=[109,111,118,101] from rfl];go_wp2_with fail
 refine(At d hd _).mono ?_;rintro e w' ⟨rfl,rfl⟩;go_wp2_with fail
 refine(At s hs _).mono ?_;rintro e w' ⟨rfl,rfl⟩;go_wp2_with fail
 refine(At t ht _).mono ?_;rintro e w' ⟨rfl,rfl⟩;go_wp2_with fail
 refine(At u hu _).mono ?_;rintro e w' ⟨rfl,rfl⟩;go_wp2_with fail
 refine(At a ha _).mono ?_;rintro e w' ⟨rfl,rfl⟩;go_wp2_with fail
 go_region_held3 (fun W=>W.cell? ⟨w.heap.size,1,none⟩=some (.int .i64 d)∧W.cell? ⟨w.heap.size,2,none⟩=some (.int .i64 s)) (go_keep) (fail)
 cases cmp with
 |false =>
  go_wp2;go_ret;refine⟨congrArg (fun b=>Ending.returned (.bool b)) (show false=fin from ?_),?_⟩
  ·first |(rw[←hfin.out];done) |(rw[←hfin.out];simp)
  ·apply_rules [Bd,Below.setCell,Below.alloc,hbe.out]<;>first |omega |(simp;omega)
 |true =>
  go_wp2;go_ret;refine⟨congrArg (fun b=>Ending.returned (.bool b)) (show true=fin from ?_),?_⟩
  ·first |(rw[←hfin.out];done) |(rw[←hfin.out];simp)
  ·apply_rules [Bd,Below.setCell,Below.alloc,hbe.out]<;>first |omega |(simp;omega)
theorem QV(d s t u a k q places:Int)(w:World)(hd:0≤d∧d≤7)(hs:0≤s∧s≤7)(ht:0≤t∧t≤7)(hu:0≤u∧u≤7)(ha:0≤a∧a≤7)(hk:0≤k∧k≤4294967295) :
  Calls Tryz.prog 69 #[.agg #[.int .i64 3,.int .i64 d,.int .i64 s,.int .i64 t,.int .i64 u,.int .i64 a,.int .u32 k,.int .i64 q],.int .i64 places] w fun e w'=>e=.returned (.bool (AN ⟨3,d,s,t,u,a,k,q⟩ places))∧Below w.heap.size w w':=by
 rw[UB d s t u a k q places hd hs ht hu ha hk];have keq:∀ W,(binOp .eql 114 (.agg #[.int .i64 3,.int .i64 d,.int .i64 s,.int .i64 0,.int .i64 0,.int .i64 0,.int .u32 k,.int .i64 0]) (.agg #[.int .i64 3,.int .i64 d,.int .i64 s,.int .i64 t,.int .i64 u,.int .i64 a,.int .u32 k,.int .i64 q])).run Tryz.prog W=.ok (.bool (decide ((⟨3,d,s,0,0,0,k,0⟩:In)=⟨3,d,s,t,u,a,k,q⟩))) W:=fun W=>DQ ⟨3,d,s,0,0,0,k,0⟩ ⟨3,d,s,t,u,a,k,q⟩ W
 generalize decide ((⟨3,d,s,0,0,0,k,0⟩:In)=⟨3,d,s,t,u,a,k,q⟩)=cmp at keq ⊢;generalize hfin:(cmp)=fin;replace hfin:=Az hfin;go_enter Tryz.func69,Tryz.ntmps69;go_wp2_with fail
 refine(AA 3 _).mono ?_;rintro e w1 ⟨rfl,hb⟩;have BK:=Az (Bk hb (Bv w _));have z:w.heap.size<w1.heap.size:=Bl BK.out;have hbe:Below w.heap.size w w1:=((Below.refl w.heap.size w).alloc (Nl _) _).trans (hb.mono (by simp));replace hbe:=Az hbe;have c0:w1.cell? ⟨w.heap.size,0,none⟩=some (.int .i64 3):=(Bc BK.out 0).trans rfl;have c1:w1.cell? ⟨w.heap.size,1,none⟩=some (.int .i64 d):=(Bc BK.out 1).trans rfl;have c2:w1.cell? ⟨w.heap.size,2,none⟩=some (.int .i64 s):=(Bc BK.out 2).trans rfl;have c3:w1.cell? ⟨w.heap.size,3,none⟩=some (.int .i64 t):=(Bc BK.out 3).trans rfl;have c4:w1.cell? ⟨w.heap.size,4,none⟩=some (.int .i64 u):=(Bc BK.out 4).trans rfl;have c5:w1.cell? ⟨w.heap.size,5,none⟩=some (.int .i64 a):=(Bc BK.out 5).trans rfl;have c6:w1.cell? ⟨w.heap.size,6,none⟩=some (.int .u32 k):=(Bc BK.out 6).trans rfl;have c7:w1.cell? ⟨w.heap.size,7,none⟩=some (.int .i64 q):=(Bc BK.out 7).trans rfl;rw[show Ak 3=[97,100,100,107] from rfl];go_wp2_with fail
 refine(At d hd _).mono ?_;rintro e w' ⟨rfl,rfl⟩;go_wp2_with fail
 refine(At s hs _).mono ?_;rintro e w' ⟨rfl,rfl⟩;go_wp2_with fail
 refine(At t ht _).mono ?_;rintro e w' ⟨rfl,rfl⟩;go_wp2_with fail
 refine(At u hu _).mono ?_;rintro e w' ⟨rfl,rfl⟩;go_wp2_with fail
 refine(At a ha _).mono ?_;rintro e w' ⟨rfl,rfl⟩;go_wp2_with fail
 go_region_held3 (fun W=>W.cell? ⟨w.heap.size,1,none⟩=some (.int .i64 d)∧W.cell? ⟨w.heap.size,2,none⟩=some (.int .i64 s)∧W.cell? ⟨w.heap.size,6,none⟩=some (.int .u32 k)) (go_keep) (fail)
 cases cmp with
 |false =>
  go_wp2;go_ret;refine⟨congrArg (fun b=>Ending.returned (.bool b)) (show false=fin from ?_),?_⟩
  ·first |(rw[←hfin.out];done) |(rw[←hfin.out];simp)
  ·apply_rules [Bd,Below.setCell,Below.alloc,hbe.out]<;>first |omega |(simp;omega)
 |true =>
  go_wp2;go_ret;refine⟨congrArg (fun b=>Ending.returned (.bool b)) (show true=fin from ?_),?_⟩
  ·first |(rw[←hfin.out];done) |(rw[←hfin.out];simp)
  ·apply_rules [Bd,Below.setCell,Below.alloc,hbe.out]<;>first |omega |(simp;omega)
theorem QW(d s t u a k q places:Int)(w:World)(hd:0≤d∧d≤7)(hs:0≤s∧s≤7)(ht:0≤t∧t≤7)(hu:0≤u∧u≤7)(ha:0≤a∧a≤7)(hk:0≤k∧k≤4294967295) :
  Calls Tryz.prog 69 #[.agg #[.int .i64 4,.int .i64 d,.int .i64 s,.int .i64 t,.int .i64 u,.int .i64 a,.int .u32 k,.int .i64 q],.int .i64 places] w fun e w'=>e=.returned (.bool (AN ⟨4,d,s,t,u,a,k,q⟩ places))∧Below w.heap.size w w':=by
 rw[UC d s t u a k q places hd hs ht hu ha hk];have keq:∀ W,(binOp .eql 114 (.agg #[.int .i64 4,.int .i64 d,.int .i64 s,.int .i64 0,.int .i64 0,.int .i64 0,.int .u32 k,.int .i64 0]) (.agg #[.int .i64 4,.int .i64 d,.int .i64 s,.int .i64 t,.int .i64 u,.int .i64 a,.int .u32 k,.int .i64 q])).run Tryz.prog W=.ok (.bool (decide ((⟨4,d,s,0,0,0,k,0⟩:In)=⟨4,d,s,t,u,a,k,q⟩))) W:=fun W=>DQ ⟨4,d,s,0,0,0,k,0⟩ ⟨4,d,s,t,u,a,k,q⟩ W
 generalize decide ((⟨4,d,s,0,0,0,k,0⟩:In)=⟨4,d,s,t,u,a,k,q⟩)=cmp at keq ⊢;generalize hfin:(cmp)=fin;replace hfin:=Az hfin;go_enter Tryz.func69,Tryz.ntmps69;go_wp2_with fail
 refine(AA 4 _).mono ?_;rintro e w1 ⟨rfl,hb⟩;have BK:=Az (Bk hb (Bv w _));have z:w.heap.size<w1.heap.size:=Bl BK.out;have hbe:Below w.heap.size w w1:=((Below.refl w.heap.size w).alloc (Nl _) _).trans (hb.mono (by simp));replace hbe:=Az hbe;have c0:w1.cell? ⟨w.heap.size,0,none⟩=some (.int .i64 4):=(Bc BK.out 0).trans rfl;have c1:w1.cell? ⟨w.heap.size,1,none⟩=some (.int .i64 d):=(Bc BK.out 1).trans rfl;have c2:w1.cell? ⟨w.heap.size,2,none⟩=some (.int .i64 s):=(Bc BK.out 2).trans rfl;have c3:w1.cell? ⟨w.heap.size,3,none⟩=some (.int .i64 t):=(Bc BK.out 3).trans rfl;have c4:w1.cell? ⟨w.heap.size,4,none⟩=some (.int .i64 u):=(Bc BK.out 4).trans rfl;have c5:w1.cell? ⟨w.heap.size,5,none⟩=some (.int .i64 a):=(Bc BK.out 5).trans rfl;have c6:w1.cell? ⟨w.heap.size,6,none⟩=some (.int .u32 k):=(Bc BK.out 6).trans rfl;have c7:w1.cell? ⟨w.heap.size,7,none⟩=some (.int .i64 q):=(Bc BK.out 7).trans rfl;rw[show Ak 4=[97,110,100,107] from rfl];go_wp2_with fail
 refine(At d hd _).mono ?_;rintro e w' ⟨rfl,rfl⟩;go_wp2_with fail
 refine(At s hs _).mono ?_;rintro e w' ⟨rfl,rfl⟩;go_wp2_with fail
 refine(At t ht _).mono ?_;rintro e w' ⟨rfl,rfl⟩;go_wp2_with fail
 refine(At u hu _).mono ?_;rintro e w' ⟨rfl,rfl⟩;go_wp2_with fail
 refine(At a ha _).mono ?_;rintro e w' ⟨rfl,rfl⟩;go_wp2_with fail
 go_region_held3 (fun W=>W.cell? ⟨w.heap.size,1,none⟩=some (.int .i64 d)∧W.cell? ⟨w.heap.size,2,none⟩=some (.int .i64 s)∧W.cell? ⟨w.heap.size,6,none⟩=some (.int .u32 k)) (go_keep) (fail)
 cases cmp with
 |false =>
  go_wp2;go_ret;refine⟨congrArg (fun b=>Ending.returned (.bool b)) (show false=fin from ?_),?_⟩
  ·first |(rw[←hfin.out];done) |(rw[←hfin.out];simp)
  ·apply_rules [Bd,Below.setCell,Below.alloc,hbe.out]<;>first |omega |(simp;omega)
 |true =>
  go_wp2;go_ret;refine⟨congrArg (fun b=>Ending.returned (.bool b)) (show true=fin from ?_),?_⟩
  ·first |(rw[←hfin.out];done) |(rw[←hfin.out];simp)
  ·apply_rules [Bd,Below.setCell,Below.alloc,hbe.out]<;>first |omega |(simp;omega)
theorem QX(d s t u a k q places:Int)(w:World)(hd:0≤d∧d≤7)(hs:0≤s∧s≤7)(ht:0≤t∧t≤7)(hu:0≤u∧u≤7)(ha:0≤a∧a≤7)(hk:0≤k∧k≤4294967295) :
  Calls Tryz.prog 69 #[.agg #[.int .i64 5,.int .i64 d,.int .i64 s,.int .i64 t,.int .i64 u,.int .i64 a,.int .u32 k,.int .i64 q],.int .i64 places] w fun e w'=>e=.returned (.bool (AN ⟨5,d,s,t,u,a,k,q⟩ places))∧Below w.heap.size w w':=by
 rw[UD d s t u a k q places hd hs ht hu ha hk];have keq:∀ W,(binOp .eql 114 (.agg #[.int .i64 5,.int .i64 d,.int .i64 s,.int .i64 0,.int .i64 0,.int .i64 0,.int .u32 k,.int .i64 0]) (.agg #[.int .i64 5,.int .i64 d,.int .i64 s,.int .i64 t,.int .i64 u,.int .i64 a,.int .u32 k,.int .i64 q])).run Tryz.prog W=.ok (.bool (decide ((⟨5,d,s,0,0,0,k,0⟩:In)=⟨5,d,s,t,u,a,k,q⟩))) W:=fun W=>DQ ⟨5,d,s,0,0,0,k,0⟩ ⟨5,d,s,t,u,a,k,q⟩ W
 generalize decide ((⟨5,d,s,0,0,0,k,0⟩:In)=⟨5,d,s,t,u,a,k,q⟩)=cmp at keq ⊢;generalize hfin:(!decide (31<k)&&cmp)=fin;replace hfin:=Az hfin;go_enter Tryz.func69,Tryz.ntmps69;go_wp2_with fail
 refine(AA 5 _).mono ?_;rintro e w1 ⟨rfl,hb⟩;have BK:=Az (Bk hb (Bv w _));have z:w.heap.size<w1.heap.size:=Bl BK.out;have hbe:Below w.heap.size w w1:=((Below.refl w.heap.size w).alloc (Nl _) _).trans (hb.mono (by simp));replace hbe:=Az hbe;have c0:w1.cell? ⟨w.heap.size,0,none⟩=some (.int .i64 5):=(Bc BK.out 0).trans rfl;have c1:w1.cell? ⟨w.heap.size,1,none⟩=some (.int .i64 d):=(Bc BK.out 1).trans rfl;have c2:w1.cell? ⟨w.heap.size,2,none⟩=some (.int .i64 s):=(Bc BK.out 2).trans rfl;have c3:w1.cell? ⟨w.heap.size,3,none⟩=some (.int .i64 t):=(Bc BK.out 3).trans rfl;have c4:w1.cell? ⟨w.heap.size,4,none⟩=some (.int .i64 u):=(Bc BK.out 4).trans rfl;have c5:w1.cell? ⟨w.heap.size,5,none⟩=some (.int .i64 a):=(Bc BK.out 5).trans rfl;have c6:w1.cell? ⟨w.heap.size,6,none⟩=some (.int .u32 k):=(Bc BK.out 6).trans rfl;have c7:w1.cell? ⟨w.heap.size,7,none⟩=some (.int .i64 q):=(Bc BK.out 7).trans rfl;rw[show Ak 5=[115,104,108] from rfl];go_wp2_with fail
 refine(At d hd _).mono ?_;rintro e w' ⟨rfl,rfl⟩;go_wp2_with fail
 refine(At s hs _).mono ?_;rintro e w' ⟨rfl,rfl⟩;go_wp2_with fail
 refine(At t ht _).mono ?_;rintro e w' ⟨rfl,rfl⟩;go_wp2_with fail
 refine(At u hu _).mono ?_;rintro e w' ⟨rfl,rfl⟩;go_wp2_with fail
 refine(At a ha _).mono ?_;rintro e w' ⟨rfl,rfl⟩;go_wp2_with fail
 go_region_held3 (fun W=>W.cell? ⟨w.heap.size,1,none⟩=some (.int .i64 d)∧W.cell? ⟨w.heap.size,2,none⟩=some (.int .i64 s)∧W.cell? ⟨w.heap.size,6,none⟩=some (.int .u32 k)) (go_keep) (fail)
 by_cases h0:31<k
 ·skip
  go_wp2;go_ret;refine⟨congrArg (fun b=>Ending.returned (.bool b)) (show false=fin from ?_),?_⟩
  ·first |(rw[←hfin.out];done) |(rw[←hfin.out];simp[h0])
  ·apply_rules [Bd,Below.setCell,Below.alloc,hbe.out]<;>first |omega |(simp;omega)
 cases cmp with
 |false =>
  go_wp2;go_ret;refine⟨congrArg (fun b=>Ending.returned (.bool b)) (show false=fin from ?_),?_⟩
  ·first |(rw[←hfin.out];done) |(rw[←hfin.out];simp)
  ·apply_rules [Bd,Below.setCell,Below.alloc,hbe.out]<;>first |omega |(simp;omega)
 |true =>
  go_wp2;go_ret;refine⟨congrArg (fun b=>Ending.returned (.bool b)) (show true=fin from ?_),?_⟩
  ·first |(rw[←hfin.out];done) |(rw[←hfin.out];simp[h0])
  ·apply_rules [Bd,Below.setCell,Below.alloc,hbe.out]<;>first |omega |(simp;omega)
theorem QY(d s t u a k q places:Int)(w:World)(hd:0≤d∧d≤7)(hs:0≤s∧s≤7)(ht:0≤t∧t≤7)(hu:0≤u∧u≤7)(ha:0≤a∧a≤7)(hk:0≤k∧k≤4294967295) :
  Calls Tryz.prog 69 #[.agg #[.int .i64 6,.int .i64 d,.int .i64 s,.int .i64 t,.int .i64 u,.int .i64 a,.int .u32 k,.int .i64 q],.int .i64 places] w fun e w'=>e=.returned (.bool (AN ⟨6,d,s,t,u,a,k,q⟩ places))∧Below w.heap.size w w':=by
 rw[UE d s t u a k q places hd hs ht hu ha hk];have keq:∀ W,(binOp .eql 114 (.agg #[.int .i64 6,.int .i64 d,.int .i64 s,.int .i64 0,.int .i64 0,.int .i64 0,.int .u32 k,.int .i64 0]) (.agg #[.int .i64 6,.int .i64 d,.int .i64 s,.int .i64 t,.int .i64 u,.int .i64 a,.int .u32 k,.int .i64 q])).run Tryz.prog W=.ok (.bool (decide ((⟨6,d,s,0,0,0,k,0⟩:In)=⟨6,d,s,t,u,a,k,q⟩))) W:=fun W=>DQ ⟨6,d,s,0,0,0,k,0⟩ ⟨6,d,s,t,u,a,k,q⟩ W
 generalize decide ((⟨6,d,s,0,0,0,k,0⟩:In)=⟨6,d,s,t,u,a,k,q⟩)=cmp at keq ⊢;generalize hfin:(!decide (31<k)&&cmp)=fin;replace hfin:=Az hfin;go_enter Tryz.func69,Tryz.ntmps69;go_wp2_with fail
 refine(AA 6 _).mono ?_;rintro e w1 ⟨rfl,hb⟩;have BK:=Az (Bk hb (Bv w _));have z:w.heap.size<w1.heap.size:=Bl BK.out;have hbe:Below w.heap.size w w1:=((Below.refl w.heap.size w).alloc (Nl _) _).trans (hb.mono (by simp));replace hbe:=Az hbe;have c0:w1.cell? ⟨w.heap.size,0,none⟩=some (.int .i64 6):=(Bc BK.out 0).trans rfl;have c1:w1.cell? ⟨w.heap.size,1,none⟩=some (.int .i64 d):=(Bc BK.out 1).trans rfl;have c2:w1.cell? ⟨w.heap.size,2,none⟩=some (.int .i64 s):=(Bc BK.out 2).trans rfl;have c3:w1.cell? ⟨w.heap.size,3,none⟩=some (.int .i64 t):=(Bc BK.out 3).trans rfl;have c4:w1.cell? ⟨w.heap.size,4,none⟩=some (.int .i64 u):=(Bc BK.out 4).trans rfl;have c5:w1.cell? ⟨w.heap.size,5,none⟩=some (.int .i64 a):=(Bc BK.out 5).trans rfl;have c6:w1.cell? ⟨w.heap.size,6,none⟩=some (.int .u32 k):=(Bc BK.out 6).trans rfl;have c7:w1.cell? ⟨w.heap.size,7,none⟩=some (.int .i64 q):=(Bc BK.out 7).trans rfl;rw[show Ak 6=[115,104,114] from rfl];go_wp2_with fail
 refine(At d hd _).mono ?_;rintro e w' ⟨rfl,rfl⟩;go_wp2_with fail
 refine(At s hs _).mono ?_;rintro e w' ⟨rfl,rfl⟩;go_wp2_with fail
 refine(At t ht _).mono ?_;rintro e w' ⟨rfl,rfl⟩;go_wp2_with fail
 refine(At u hu _).mono ?_;rintro e w' ⟨rfl,rfl⟩;go_wp2_with fail
 refine(At a ha _).mono ?_;rintro e w' ⟨rfl,rfl⟩;go_wp2_with fail
 go_region_held3 (fun W=>W.cell? ⟨w.heap.size,1,none⟩=some (.int .i64 d)∧W.cell? ⟨w.heap.size,2,none⟩=some (.int .i64 s)∧W.cell? ⟨w.heap.size,6,none⟩=some (.int .u32 k)) (go_keep) (fail)
 by_cases h0:31<k
 ·skip
  go_wp2;go_ret;refine⟨congrArg (fun b=>Ending.returned (.bool b)) (show false=fin from ?_),?_⟩
  ·first |(rw[←hfin.out];done) |(rw[←hfin.out];simp[h0])
  ·apply_rules [Bd,Below.setCell,Below.alloc,hbe.out]<;>first |omega |(simp;omega)
 cases cmp with
 |false =>
  go_wp2;go_ret;refine⟨congrArg (fun b=>Ending.returned (.bool b)) (show false=fin from ?_),?_⟩
  ·first |(rw[←hfin.out];done) |(rw[←hfin.out];simp)
  ·apply_rules [Bd,Below.setCell,Below.alloc,hbe.out]<;>first |omega |(simp;omega)
 |true =>
  go_wp2;go_ret;refine⟨congrArg (fun b=>Ending.returned (.bool b)) (show true=fin from ?_),?_⟩
  ·first |(rw[←hfin.out];done) |(rw[←hfin.out];simp[h0])
  ·apply_rules [Bd,Below.setCell,Below.alloc,hbe.out]<;>first |omega |(simp;omega)
theorem QZ(d s t u a k q places:Int)(w:World)(hd:0≤d∧d≤7)(hs:0≤s∧s≤7)(ht:0≤t∧t≤7)(hu:0≤u∧u≤7)(ha:0≤a∧a≤7)(hk:0≤k∧k≤4294967295) :
  Calls Tryz.prog 69 #[.agg #[.int .i64 7,.int .i64 d,.int .i64 s,.int .i64 t,.int .i64 u,.int .i64 a,.int .u32 k,.int .i64 q],.int .i64 places] w fun e w'=>e=.returned (.bool (AN ⟨7,d,s,t,u,a,k,q⟩ places))∧Below w.heap.size w w':=by
 rw[UF d s t u a k q places hd hs ht hu ha hk];have keq:∀ W,(binOp .eql 114 (.agg #[.int .i64 7,.int .i64 d,.int .i64 s,.int .i64 t,.int .i64 0,.int .i64 0,.int .u32 0,.int .i64 0]) (.agg #[.int .i64 7,.int .i64 d,.int .i64 s,.int .i64 t,.int .i64 u,.int .i64 a,.int .u32 k,.int .i64 q])).run Tryz.prog W=.ok (.bool (decide ((⟨7,d,s,t,0,0,0,0⟩:In)=⟨7,d,s,t,u,a,k,q⟩))) W:=fun W=>DQ ⟨7,d,s,t,0,0,0,0⟩ ⟨7,d,s,t,u,a,k,q⟩ W
 generalize decide ((⟨7,d,s,t,0,0,0,0⟩:In)=⟨7,d,s,t,u,a,k,q⟩)=cmp at keq ⊢;generalize hfin:(cmp)=fin;replace hfin:=Az hfin;go_enter Tryz.func69,Tryz.ntmps69;go_wp2_with fail
 refine(AA 7 _).mono ?_;rintro e w1 ⟨rfl,hb⟩;have BK:=Az (Bk hb (Bv w _));have z:w.heap.size<w1.heap.size:=Bl BK.out;have hbe:Below w.heap.size w w1:=((Below.refl w.heap.size w).alloc (Nl _) _).trans (hb.mono (by simp));replace hbe:=Az hbe;have c0:w1.cell? ⟨w.heap.size,0,none⟩=some (.int .i64 7):=(Bc BK.out 0).trans rfl;have c1:w1.cell? ⟨w.heap.size,1,none⟩=some (.int .i64 d):=(Bc BK.out 1).trans rfl;have c2:w1.cell? ⟨w.heap.size,2,none⟩=some (.int .i64 s):=(Bc BK.out 2).trans rfl;have c3:w1.cell? ⟨w.heap.size,3,none⟩=some (.int .i64 t):=(Bc BK.out 3).trans rfl;have c4:w1.cell? ⟨w.heap.size,4,none⟩=some (.int .i64 u):=(Bc BK.out 4).trans rfl;have c5:w1.cell? ⟨w.heap.size,5,none⟩=some (.int .i64 a):=(Bc BK.out 5).trans rfl;have c6:w1.cell? ⟨w.heap.size,6,none⟩=some (.int .u32 k):=(Bc BK.out 6).trans rfl;have c7:w1.cell? ⟨w.heap.size,7,none⟩=some (.int .i64 q):=(Bc BK.out 7).trans rfl;rw[show Ak 7=[111,114] from rfl];go_wp2_with fail
 refine(At d hd _).mono ?_;rintro e w' ⟨rfl,rfl⟩;go_wp2_with fail
 refine(At s hs _).mono ?_;rintro e w' ⟨rfl,rfl⟩;go_wp2_with fail
 refine(At t ht _).mono ?_;rintro e w' ⟨rfl,rfl⟩;go_wp2_with fail
 refine(At u hu _).mono ?_;rintro e w' ⟨rfl,rfl⟩;go_wp2_with fail
 refine(At a ha _).mono ?_;rintro e w' ⟨rfl,rfl⟩;go_wp2_with fail
 go_region_held3 (fun W=>W.cell? ⟨w.heap.size,1,none⟩=some (.int .i64 d)∧W.cell? ⟨w.heap.size,2,none⟩=some (.int .i64 s)∧W.cell? ⟨w.heap.size,3,none⟩=some (.int .i64 t)) (go_keep) (fail)
 cases cmp with
 |false =>
  go_wp2;go_ret;refine⟨congrArg (fun b=>Ending.returned (.bool b)) (show false=fin from ?_),?_⟩
  ·first |(rw[←hfin.out];done) |(rw[←hfin.out];simp)
  ·apply_rules [Bd,Below.setCell,Below.alloc,hbe.out]<;>first |omega |(simp;omega)
 |true =>
  go_wp2;go_ret;refine⟨congrArg (fun b=>Ending.returned (.bool b)) (show true=fin from ?_),?_⟩
  ·first |(rw[←hfin.out];done) |(rw[←hfin.out];simp)
  ·apply_rules [Bd,Below.setCell,Below.alloc,hbe.out]<;>first |omega |(simp;omega)
theorem Z4(d s t u a k q:Int)(hf:In.fits ⟨18,d,s,t,u,a,k,q⟩)(w:World):Calls Tryz.prog 118 #[In.v ⟨18,d,s,t,u,a,k,q⟩] w fun e w'=>e=.returned (.string ⟨(Bz ⟨18,d,s,t,u,a,k,q⟩).toArray⟩)∧Below w.heap.size w w':=by
 have te:Bz ⟨18,d,s,t,u,a,k,q⟩=Ak 18++((((32::114::dec d)++(32::dec a))++(32::114::dec s))++(32::114::dec t)):=by
  show Go.Lib.join (Ak 18::List.flatten [[114::dec d],[dec a],[114::dec s],[114::dec t]]) [32]=_
  simp[BH,Go.Lib.join_one]
 obtain⟨CK,CA,wk,lk,la,CQ,ld0,ls0,lt0,lu0,lk0,la0,lq0⟩:=BY hf;have CN:=Az (fun W=>AA 18 W);have Cd:=Az (fun W=>AU hf.d.1 (Int.le_trans hf.d.2 (by decide)) W);have Cs:=Az (fun W=>AU hf.s.1 (Int.le_trans hf.s.2 (by decide)) W);have Ct:=Az (fun W=>AU hf.t.1 (Int.le_trans hf.t.2 (by decide)) W);dsimp only at Cd Cs Ct;have ln0:(Ak 18).length=4:=by decide
 have b2:¬9223372036854775807<(((dec d).length+1+1)+(1+(dec a).length)):=by omega
 have b3:¬9223372036854775807<((((dec d).length+1+1)+(1+(dec a).length))+((dec s).length+1+1)):=by omega
 have b4:¬9223372036854775807<(((((dec d).length+1+1)+(1+(dec a).length))+((dec s).length+1+1))+((dec t).length+1+1)):=by omega
 have bn:¬9223372036854775807<(Ak 18).length+(((((dec d).length+1+1)+(1+(dec a).length))+((dec s).length+1+1))+((dec t).length+1+1)):=by omega
 clear lk0 lq0 ld0 ls0 lt0 lu0 la0 ln0;have hS:=BD w 18 d s t u a k q;replace hf:=Az hf;replace te:=Az te;unfold In.v;go_enter Tryz.func118,Tryz.ntmps118;go_wp2_with fail
 go_region_held3 (fun W=>RB w W 18 d s t u a k q) (first |exact hS |exact Ad hb (by assumption))
  (first
   |(go_at_call 49;(with_reducible refine(CK.out _).mono ?_);rintro e w' ⟨rfl,hb⟩)
   |(go_at_call 49;(with_reducible refine(CA.out _).mono ?_);rintro e w' ⟨rfl,hb⟩))
 obtain⟨HA,y0,y1,y2,y3,y4,y5,y6,y7⟩:=Ad (Below.refl _ _) (by assumption);by_cases hq:0≤q;obtain⟨CQ,lq⟩:=CQ.out hq;go_wp2_with fail
 refine(CQ.out _).mono ?_;rintro e w2 ⟨rfl,hb2⟩;obtain⟨HA,y0,y1,y2,y3,y4,y5,y6,y7⟩:=Ad hb2 ⟨HA,y0,y1,y2,y3,y4,y5,y6,y7⟩;go_wp2_with fail
 rotate_left;go_wp2_with fail
 rotate_left;all_goals (
  refine(CN.out _).mono ?_;rintro e w2 ⟨rfl,hb2⟩;obtain⟨HA,y0,y1,y2,y3,y4,y5,y6,y7⟩:=Ad hb2 ⟨HA,y0,y1,y2,y3,y4,y5,y6,y7⟩;go_wp2_with fail
  have hT:=Ad (Bd (Below.refl _ _)) ⟨HA,y0,y1,y2,y3,y4,y5,y6,y7⟩;go_region_held3 (fun W=>RB w W 18 d s t u a k q) (first |exact hT |exact Ad hb (by assumption))
   (first
    |(go_at_call 141;(with_reducible refine(Cd.out _).mono ?_);rintro e w' ⟨rfl,hb⟩)
    |(go_at_call 141;(with_reducible refine(Cs.out _).mono ?_);rintro e w' ⟨rfl,hb⟩)
    |(go_at_call 141;(with_reducible refine(Ct.out _).mono ?_);rintro e w' ⟨rfl,hb⟩))
  obtain⟨HA,y0,y1,y2,y3,y4,y5,y6,y7⟩:=Ad (Below.refl _ _) (by assumption);go_wp2;go_ret;refine⟨BJ ?_,HA.out.2⟩;rw[te.out];simp[D4,BV])
theorem Z5(d s t u a k q:Int)(hf:In.fits ⟨19,d,s,t,u,a,k,q⟩)(w:World):Calls Tryz.prog 118 #[In.v ⟨19,d,s,t,u,a,k,q⟩] w fun e w'=>e=.returned (.string ⟨(Bz ⟨19,d,s,t,u,a,k,q⟩).toArray⟩)∧Below w.heap.size w w':=by
 have te:Bz ⟨19,d,s,t,u,a,k,q⟩=Ak 19++(((((32::114::dec d)++(32::dec a))++(32::114::dec s))++(32::114::dec t))++(32::114::dec u)):=by
  show Go.Lib.join (Ak 19::List.flatten [[114::dec d],[dec a],[114::dec s],[114::dec t],[114::dec u]]) [32]=_
  simp[BH,Go.Lib.join_one]
 obtain⟨CK,CA,wk,lk,la,CQ,ld0,ls0,lt0,lu0,lk0,la0,lq0⟩:=BY hf;have CN:=Az (fun W=>AA 19 W);have Cd:=Az (fun W=>AU hf.d.1 (Int.le_trans hf.d.2 (by decide)) W);have Cs:=Az (fun W=>AU hf.s.1 (Int.le_trans hf.s.2 (by decide)) W);have Ct:=Az (fun W=>AU hf.t.1 (Int.le_trans hf.t.2 (by decide)) W);have Cu:=Az (fun W=>AU hf.u.1 (Int.le_trans hf.u.2 (by decide)) W);dsimp only at Cd Cs Ct Cu;have ln0:(Ak 19).length=3:=by decide
 have b2:¬9223372036854775807<(((dec d).length+1+1)+(1+(dec a).length)):=by omega
 have b3:¬9223372036854775807<((((dec d).length+1+1)+(1+(dec a).length))+((dec s).length+1+1)):=by omega
 have b4:¬9223372036854775807<(((((dec d).length+1+1)+(1+(dec a).length))+((dec s).length+1+1))+((dec t).length+1+1)):=by omega
 have b5:¬9223372036854775807<((((((dec d).length+1+1)+(1+(dec a).length))+((dec s).length+1+1))+((dec t).length+1+1))+((dec u).length+1+1)):=by omega
 have bn:¬9223372036854775807<(Ak 19).length+((((((dec d).length+1+1)+(1+(dec a).length))+((dec s).length+1+1))+((dec t).length+1+1))+((dec u).length+1+1)):=by omega
 clear lk0 lq0 ld0 ls0 lt0 lu0 la0 ln0;have hS:=BD w 19 d s t u a k q;replace hf:=Az hf;replace te:=Az te;unfold In.v;go_enter Tryz.func118,Tryz.ntmps118;go_wp2_with fail
 go_region_held3 (fun W=>RB w W 19 d s t u a k q) (first |exact hS |exact Ad hb (by assumption))
  (first
   |(go_at_call 49;(with_reducible refine(CK.out _).mono ?_);rintro e w' ⟨rfl,hb⟩)
   |(go_at_call 49;(with_reducible refine(CA.out _).mono ?_);rintro e w' ⟨rfl,hb⟩))
 obtain⟨HA,y0,y1,y2,y3,y4,y5,y6,y7⟩:=Ad (Below.refl _ _) (by assumption);by_cases hq:0≤q;obtain⟨CQ,lq⟩:=CQ.out hq;go_wp2_with fail
 refine(CQ.out _).mono ?_;rintro e w2 ⟨rfl,hb2⟩;obtain⟨HA,y0,y1,y2,y3,y4,y5,y6,y7⟩:=Ad hb2 ⟨HA,y0,y1,y2,y3,y4,y5,y6,y7⟩;go_wp2_with fail
 rotate_left;go_wp2_with fail
 rotate_left;all_goals (
  refine(CN.out _).mono ?_;rintro e w2 ⟨rfl,hb2⟩;obtain⟨HA,y0,y1,y2,y3,y4,y5,y6,y7⟩:=Ad hb2 ⟨HA,y0,y1,y2,y3,y4,y5,y6,y7⟩;go_wp2_with fail
  have hT:=Ad (Bd (Below.refl _ _)) ⟨HA,y0,y1,y2,y3,y4,y5,y6,y7⟩;go_region_held3 (fun W=>RB w W 19 d s t u a k q) (first |exact hT |exact Ad hb (by assumption))
   (first
    |(go_at_call 141;(with_reducible refine(Cd.out _).mono ?_);rintro e w' ⟨rfl,hb⟩)
    |(go_at_call 141;(with_reducible refine(Cs.out _).mono ?_);rintro e w' ⟨rfl,hb⟩)
    |(go_at_call 141;(with_reducible refine(Ct.out _).mono ?_);rintro e w' ⟨rfl,hb⟩)
    |(go_at_call 141;(with_reducible refine(Cu.out _).mono ?_);rintro e w' ⟨rfl,hb⟩))
  obtain⟨HA,y0,y1,y2,y3,y4,y5,y6,y7⟩:=Ad (Below.refl _ _) (by assumption);go_wp2;go_ret;refine⟨BJ ?_,HA.out.2⟩;rw[te.out];simp[D4,BV])
theorem Z6(d s t u a k q:Int)(hf:In.fits ⟨20,d,s,t,u,a,k,q⟩)(w:World):Calls Tryz.prog 118 #[In.v ⟨20,d,s,t,u,a,k,q⟩] w fun e w'=>e=.returned (.string ⟨(Bz ⟨20,d,s,t,u,a,k,q⟩).toArray⟩)∧Below w.heap.size w w':=by
 have te:Bz ⟨20,d,s,t,u,a,k,q⟩=Ak 20++((((32::114::dec d)++(32::dec a))++(32::114::dec s))++(32::dec k)):=by
  show Go.Lib.join (Ak 20::List.flatten [[114::dec d],[dec a],[114::dec s],[dec k]]) [32]=_
  simp[BH,Go.Lib.join_one]
 obtain⟨CK,CA,wk,lk,la,CQ,ld0,ls0,lt0,lu0,lk0,la0,lq0⟩:=BY hf;have CN:=Az (fun W=>AA 20 W);have Cd:=Az (fun W=>AU hf.d.1 (Int.le_trans hf.d.2 (by decide)) W);have Cs:=Az (fun W=>AU hf.s.1 (Int.le_trans hf.s.2 (by decide)) W);dsimp only at Cd Cs;have ln0:(Ak 20).length=4:=by decide
 have b2:¬9223372036854775807<(((dec d).length+1+1)+(1+(dec a).length)):=by omega
 have b3:¬9223372036854775807<((((dec d).length+1+1)+(1+(dec a).length))+((dec s).length+1+1)):=by omega
 have b4:¬9223372036854775807<(((((dec d).length+1+1)+(1+(dec a).length))+((dec s).length+1+1))+(1+(dec k).length)):=by omega
 have bn:¬9223372036854775807<(Ak 20).length+(((((dec d).length+1+1)+(1+(dec a).length))+((dec s).length+1+1))+(1+(dec k).length)):=by omega
 clear lk0 lq0 ld0 ls0 lt0 lu0 la0 ln0;have hS:=BD w 20 d s t u a k q;replace hf:=Az hf;replace te:=Az te;unfold In.v;go_enter Tryz.func118,Tryz.ntmps118;go_wp2_with fail
 go_region_held3 (fun W=>RB w W 20 d s t u a k q) (first |exact hS |exact Ad hb (by assumption))
  (first
   |(go_at_call 49;(with_reducible refine(CK.out _).mono ?_);rintro e w' ⟨rfl,hb⟩)
   |(go_at_call 49;(with_reducible refine(CA.out _).mono ?_);rintro e w' ⟨rfl,hb⟩))
 obtain⟨HA,y0,y1,y2,y3,y4,y5,y6,y7⟩:=Ad (Below.refl _ _) (by assumption);by_cases hq:0≤q;obtain⟨CQ,lq⟩:=CQ.out hq;go_wp2_with fail
 refine(CQ.out _).mono ?_;rintro e w2 ⟨rfl,hb2⟩;obtain⟨HA,y0,y1,y2,y3,y4,y5,y6,y7⟩:=Ad hb2 ⟨HA,y0,y1,y2,y3,y4,y5,y6,y7⟩;go_wp2_with fail
 rotate_left;go_wp2_with fail
 rotate_left;all_goals (
  refine(CN.out _).mono ?_;rintro e w2 ⟨rfl,hb2⟩;obtain⟨HA,y0,y1,y2,y3,y4,y5,y6,y7⟩:=Ad hb2 ⟨HA,y0,y1,y2,y3,y4,y5,y6,y7⟩;go_wp2_with fail
  have hT:=Ad (Bd (Below.refl _ _)) ⟨HA,y0,y1,y2,y3,y4,y5,y6,y7⟩;go_region_held3 (fun W=>RB w W 20 d s t u a k q) (first |exact hT |exact Ad hb (by assumption))
   (first
    |(go_at_call 141;(with_reducible refine(Cd.out _).mono ?_);rintro e w' ⟨rfl,hb⟩)
    |(go_at_call 141;(with_reducible refine(Cs.out _).mono ?_);rintro e w' ⟨rfl,hb⟩))
  obtain⟨HA,y0,y1,y2,y3,y4,y5,y6,y7⟩:=Ad (Below.refl _ _) (by assumption);go_wp2;go_ret;refine⟨BJ ?_,HA.out.2⟩;rw[te.out];simp[D4,BV])
theorem Z7(d s t u a k q:Int)(hf:In.fits ⟨22,d,s,t,u,a,k,q⟩)(w:World):Calls Tryz.prog 118 #[In.v ⟨22,d,s,t,u,a,k,q⟩] w fun e w'=>e=.returned (.string ⟨(Bz ⟨22,d,s,t,u,a,k,q⟩).toArray⟩)∧Below w.heap.size w w':=by
 have te:Bz ⟨22,d,s,t,u,a,k,q⟩=Ak 22++(32::114::dec d):=by
  show Go.Lib.join (Ak 22::List.flatten [[114::dec d]]) [32]=_
  simp[BH,Go.Lib.join_one]
 obtain⟨CK,CA,wk,lk,la,CQ,ld0,ls0,lt0,lu0,lk0,la0,lq0⟩:=BY hf;have CN:=Az (fun W=>AA 22 W);have Cd:=Az (fun W=>AU hf.d.1 (Int.le_trans hf.d.2 (by decide)) W);dsimp only at Cd;have ln0:(Ak 22).length=4:=by decide
 have bn:¬9223372036854775807<(Ak 22).length+((dec d).length+1+1):=by omega
 clear lk0 lq0 ld0 ls0 lt0 lu0 la0 ln0;have hS:=BD w 22 d s t u a k q;replace hf:=Az hf;replace te:=Az te;unfold In.v;go_enter Tryz.func118,Tryz.ntmps118;go_wp2_with fail
 go_region_held3 (fun W=>RB w W 22 d s t u a k q) (first |exact hS |exact Ad hb (by assumption))
  (first
   |(go_at_call 49;(with_reducible refine(CK.out _).mono ?_);rintro e w' ⟨rfl,hb⟩)
   |(go_at_call 49;(with_reducible refine(CA.out _).mono ?_);rintro e w' ⟨rfl,hb⟩))
 obtain⟨HA,y0,y1,y2,y3,y4,y5,y6,y7⟩:=Ad (Below.refl _ _) (by assumption);by_cases hq:0≤q;obtain⟨CQ,lq⟩:=CQ.out hq;go_wp2_with fail
 refine(CQ.out _).mono ?_;rintro e w2 ⟨rfl,hb2⟩;obtain⟨HA,y0,y1,y2,y3,y4,y5,y6,y7⟩:=Ad hb2 ⟨HA,y0,y1,y2,y3,y4,y5,y6,y7⟩;go_wp2_with fail
 rotate_left;go_wp2_with fail
 rotate_left;all_goals (
  refine(CN.out _).mono ?_;rintro e w2 ⟨rfl,hb2⟩;obtain⟨HA,y0,y1,y2,y3,y4,y5,y6,y7⟩:=Ad hb2 ⟨HA,y0,y1,y2,y3,y4,y5,y6,y7⟩;go_wp2_with fail
  refine(Cd.out _).mono ?_;rintro e w2 ⟨rfl,hb2⟩;obtain⟨HA,y0,y1,y2,y3,y4,y5,y6,y7⟩:=Ad hb2 ⟨HA,y0,y1,y2,y3,y4,y5,y6,y7⟩;go_wp2_with fail
  go_wp2;go_ret;refine⟨BJ ?_,HA.out.2⟩;rw[te.out];simp[D4,BV])
theorem Z8(d s t u a k q:Int)(hf:In.fits ⟨23,d,s,t,u,a,k,q⟩)(w:World):Calls Tryz.prog 118 #[In.v ⟨23,d,s,t,u,a,k,q⟩] w fun e w'=>e=.returned (.string ⟨(Bz ⟨23,d,s,t,u,a,k,q⟩).toArray⟩)∧Below w.heap.size w w':=by
 have te:Bz ⟨23,d,s,t,u,a,k,q⟩=Ak 23++(32::114::dec s):=by
  show Go.Lib.join (Ak 23::List.flatten [[114::dec s]]) [32]=_
  simp[BH,Go.Lib.join_one]
 obtain⟨CK,CA,wk,lk,la,CQ,ld0,ls0,lt0,lu0,lk0,la0,lq0⟩:=BY hf;have CN:=Az (fun W=>AA 23 W);have Cs:=Az (fun W=>AU hf.s.1 (Int.le_trans hf.s.2 (by decide)) W);dsimp only at Cs;have ln0:(Ak 23).length=4:=by decide
 have bn:¬9223372036854775807<(Ak 23).length+((dec s).length+1+1):=by omega
 clear lk0 lq0 ld0 ls0 lt0 lu0 la0 ln0;have hS:=BD w 23 d s t u a k q;replace hf:=Az hf;replace te:=Az te;unfold In.v;go_enter Tryz.func118,Tryz.ntmps118;go_wp2_with fail
 go_region_held3 (fun W=>RB w W 23 d s t u a k q) (first |exact hS |exact Ad hb (by assumption))
  (first
   |(go_at_call 49;(with_reducible refine(CK.out _).mono ?_);rintro e w' ⟨rfl,hb⟩)
   |(go_at_call 49;(with_reducible refine(CA.out _).mono ?_);rintro e w' ⟨rfl,hb⟩))
 obtain⟨HA,y0,y1,y2,y3,y4,y5,y6,y7⟩:=Ad (Below.refl _ _) (by assumption);by_cases hq:0≤q;obtain⟨CQ,lq⟩:=CQ.out hq;go_wp2_with fail
 refine(CQ.out _).mono ?_;rintro e w2 ⟨rfl,hb2⟩;obtain⟨HA,y0,y1,y2,y3,y4,y5,y6,y7⟩:=Ad hb2 ⟨HA,y0,y1,y2,y3,y4,y5,y6,y7⟩;go_wp2_with fail
 rotate_left;go_wp2_with fail
 rotate_left;all_goals (
  refine(CN.out _).mono ?_;rintro e w2 ⟨rfl,hb2⟩;obtain⟨HA,y0,y1,y2,y3,y4,y5,y6,y7⟩:=Ad hb2 ⟨HA,y0,y1,y2,y3,y4,y5,y6,y7⟩;go_wp2_with fail
  refine(Cs.out _).mono ?_;rintro e w2 ⟨rfl,hb2⟩;obtain⟨HA,y0,y1,y2,y3,y4,y5,y6,y7⟩:=Ad hb2 ⟨HA,y0,y1,y2,y3,y4,y5,y6,y7⟩;go_wp2_with fail
  go_wp2;go_ret;refine⟨BJ ?_,HA.out.2⟩;rw[te.out];simp[D4,BV])
end
end Go.Proofs.YtjjpiefgdggghaaGreatDoor

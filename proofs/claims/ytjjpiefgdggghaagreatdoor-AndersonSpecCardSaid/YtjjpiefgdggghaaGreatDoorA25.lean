/- Parts: RefRightB, RefTextF, CaseArg. -/
import Derived.Test.YtjjpiefgdggghaaGreatDoorA03
import Derived.Test.YtjjpiefgdggghaaGreatDoorA10
import Derived.Test.YtjjpiefgdggghaaGreatDoorA18
import Derived.RegionTactic
import Derived.BigRegion
import Derived.Deep.RegionHeld3
import Derived.Test.YtjjpiefgdggghaaGreatDoorA08
import Derived.Deep.Slices
import Derived.ChangeSame
import Derived.Carry
set_option linter.unusedVariables false
set_option linter.unusedSimpArgs false
set_option maxRecDepth 100000
set_option maxHeartbeats 40000000
namespace Go.Proofs.YtjjpiefgdggghaaGreatDoor
section
open Go.RowKit Go.Proofs.YtjjpiefgdggghaaGreatDoorW.PrintWords
theorem Nx(d s t u a k q places:Int)(w:World)(hd:0≤d∧d≤7)(hs:0≤s∧s≤7)(ht:0≤t∧t≤7)(hu:0≤u∧u≤7)(ha:0≤a∧a≤7)(hk:0≤k∧k≤4294967295) :
  Calls Tryz.prog 69 #[.agg #[.int .i64 8,.int .i64 d,.int .i64 s,.int .i64 t,.int .i64 u,.int .i64 a,.int .u32 k,.int .i64 q],.int .i64 places] w fun e w'=>e=.returned (.bool (AD ⟨8,d,s,t,u,a,k,q⟩ places))∧Below w.heap.size w w':=by
 rw[QH d s t u a k q places hd hs ht hu ha hk];have keq:∀ W,(binOp .eql 114 (.agg #[.int .i64 8,.int .i64 0,.int .i64 s,.int .i64 t,.int .i64 0,.int .i64 0,.int .u32 0,.int .i64 q]) (.agg #[.int .i64 8,.int .i64 d,.int .i64 s,.int .i64 t,.int .i64 u,.int .i64 a,.int .u32 k,.int .i64 q])).run Tryz.prog W=.ok (.bool (decide ((⟨8,0,s,t,0,0,0,q⟩:In)=⟨8,d,s,t,u,a,k,q⟩))) W:=fun W=>D0 ⟨8,0,s,t,0,0,0,q⟩ ⟨8,d,s,t,u,a,k,q⟩ W
 generalize decide ((⟨8,0,s,t,0,0,0,q⟩:In)=⟨8,d,s,t,u,a,k,q⟩)=cmp at keq ⊢;generalize hfin:(!decide (q<0)&&cmp&&decide (q<places))=fin;replace hfin:=Az hfin;go_enter Tryz.func69,Tryz.ntmps69;go_wp2_with fail
 refine(Aw 8 _).mono ?_;rintro e w1 ⟨rfl,hb⟩;have BK:=Az (Bk hb (Bv w _));have z:w.heap.size<w1.heap.size:=Bl BK.out;have hbe:Below w.heap.size w w1:=((Below.refl w.heap.size w).alloc (Nl _) _).trans (hb.mono (by simp));replace hbe:=Az hbe;have c0:w1.cell? ⟨w.heap.size,0,none⟩=some (.int .i64 8):=(Bc BK.out 0).trans rfl;have c1:w1.cell? ⟨w.heap.size,1,none⟩=some (.int .i64 d):=(Bc BK.out 1).trans rfl;have c2:w1.cell? ⟨w.heap.size,2,none⟩=some (.int .i64 s):=(Bc BK.out 2).trans rfl;have c3:w1.cell? ⟨w.heap.size,3,none⟩=some (.int .i64 t):=(Bc BK.out 3).trans rfl;have c4:w1.cell? ⟨w.heap.size,4,none⟩=some (.int .i64 u):=(Bc BK.out 4).trans rfl;have c5:w1.cell? ⟨w.heap.size,5,none⟩=some (.int .i64 a):=(Bc BK.out 5).trans rfl;have c6:w1.cell? ⟨w.heap.size,6,none⟩=some (.int .u32 k):=(Bc BK.out 6).trans rfl;have c7:w1.cell? ⟨w.heap.size,7,none⟩=some (.int .i64 q):=(Bc BK.out 7).trans rfl;rw[show Aj 8=[98,101,113] from rfl];go_wp2_with fail
 refine(An d hd _).mono ?_;rintro e w' ⟨rfl,rfl⟩;go_wp2_with fail
 refine(An s hs _).mono ?_;rintro e w' ⟨rfl,rfl⟩;go_wp2_with fail
 refine(An t ht _).mono ?_;rintro e w' ⟨rfl,rfl⟩;go_wp2_with fail
 refine(An u hu _).mono ?_;rintro e w' ⟨rfl,rfl⟩;go_wp2_with fail
 refine(An a ha _).mono ?_;rintro e w' ⟨rfl,rfl⟩;go_wp2_with fail
 go_region_held3 (fun W=>W.cell? ⟨w.heap.size,2,none⟩=some (.int .i64 s)∧W.cell? ⟨w.heap.size,3,none⟩=some (.int .i64 t)∧W.cell? ⟨w.heap.size,7,none⟩=some (.int .i64 q)) (go_keep) (fail)
 by_cases h9:q<0
 ·skip
  go_wp2;go_ret;refine⟨congrArg (fun b=>Ending.returned (.bool b)) (show false=fin from ?_),?_⟩
  ·first |(rw[←hfin.out];done) |(rw[←hfin.out];simp[h9])
  ·apply_rules [Bd,Below.setCell,Below.alloc,hbe.out]<;>first |omega |(simp;omega)
 cases cmp with
 |false =>
  go_wp2;go_ret;refine⟨congrArg (fun b=>Ending.returned (.bool b)) (show false=fin from ?_),?_⟩
  ·first |(rw[←hfin.out];done) |(rw[←hfin.out];simp)
  ·apply_rules [Bd,Below.setCell,Below.alloc,hbe.out]<;>first |omega |(simp;omega)
 |true =>
  by_cases h8:q<places
  ·skip
   go_wp2;go_ret;refine⟨congrArg (fun b=>Ending.returned (.bool b)) (show true=fin from ?_),?_⟩
   ·first |(rw[←hfin.out];done) |(rw[←hfin.out];simp[h8,h9])
   ·apply_rules [Bd,Below.setCell,Below.alloc,hbe.out]<;>first |omega |(simp;omega)
  ·have h8b:decide (q<places)=false:=decide_eq_false h8;go_wp2;go_ret;refine⟨congrArg (fun b=>Ending.returned (.bool b)) (show false=fin from ?_),?_⟩
   ·first |(rw[←hfin.out];done) |(rw[←hfin.out];simp[h8])
   ·apply_rules [Bd,Below.setCell,Below.alloc,hbe.out]<;>first |omega |(simp;omega)
theorem Ny(d s t u a k q places:Int)(w:World)(hd:0≤d∧d≤7)(hs:0≤s∧s≤7)(ht:0≤t∧t≤7)(hu:0≤u∧u≤7)(ha:0≤a∧a≤7)(hk:0≤k∧k≤4294967295) :
  Calls Tryz.prog 69 #[.agg #[.int .i64 9,.int .i64 d,.int .i64 s,.int .i64 t,.int .i64 u,.int .i64 a,.int .u32 k,.int .i64 q],.int .i64 places] w fun e w'=>e=.returned (.bool (AD ⟨9,d,s,t,u,a,k,q⟩ places))∧Below w.heap.size w w':=by
 rw[QI d s t u a k q places hd hs ht hu ha hk];have keq:∀ W,(binOp .eql 114 (.agg #[.int .i64 9,.int .i64 0,.int .i64 s,.int .i64 t,.int .i64 0,.int .i64 0,.int .u32 0,.int .i64 q]) (.agg #[.int .i64 9,.int .i64 d,.int .i64 s,.int .i64 t,.int .i64 u,.int .i64 a,.int .u32 k,.int .i64 q])).run Tryz.prog W=.ok (.bool (decide ((⟨9,0,s,t,0,0,0,q⟩:In)=⟨9,d,s,t,u,a,k,q⟩))) W:=fun W=>D0 ⟨9,0,s,t,0,0,0,q⟩ ⟨9,d,s,t,u,a,k,q⟩ W
 generalize decide ((⟨9,0,s,t,0,0,0,q⟩:In)=⟨9,d,s,t,u,a,k,q⟩)=cmp at keq ⊢;generalize hfin:(!decide (q<0)&&cmp&&decide (q<places))=fin;replace hfin:=Az hfin;go_enter Tryz.func69,Tryz.ntmps69;go_wp2_with fail
 refine(Aw 9 _).mono ?_;rintro e w1 ⟨rfl,hb⟩;have BK:=Az (Bk hb (Bv w _));have z:w.heap.size<w1.heap.size:=Bl BK.out;have hbe:Below w.heap.size w w1:=((Below.refl w.heap.size w).alloc (Nl _) _).trans (hb.mono (by simp));replace hbe:=Az hbe;have c0:w1.cell? ⟨w.heap.size,0,none⟩=some (.int .i64 9):=(Bc BK.out 0).trans rfl;have c1:w1.cell? ⟨w.heap.size,1,none⟩=some (.int .i64 d):=(Bc BK.out 1).trans rfl;have c2:w1.cell? ⟨w.heap.size,2,none⟩=some (.int .i64 s):=(Bc BK.out 2).trans rfl;have c3:w1.cell? ⟨w.heap.size,3,none⟩=some (.int .i64 t):=(Bc BK.out 3).trans rfl;have c4:w1.cell? ⟨w.heap.size,4,none⟩=some (.int .i64 u):=(Bc BK.out 4).trans rfl;have c5:w1.cell? ⟨w.heap.size,5,none⟩=some (.int .i64 a):=(Bc BK.out 5).trans rfl;have c6:w1.cell? ⟨w.heap.size,6,none⟩=some (.int .u32 k):=(Bc BK.out 6).trans rfl;have c7:w1.cell? ⟨w.heap.size,7,none⟩=some (.int .i64 q):=(Bc BK.out 7).trans rfl;rw[show Aj 9=[98,110,101] from rfl];go_wp2_with fail
 refine(An d hd _).mono ?_;rintro e w' ⟨rfl,rfl⟩;go_wp2_with fail
 refine(An s hs _).mono ?_;rintro e w' ⟨rfl,rfl⟩;go_wp2_with fail
 refine(An t ht _).mono ?_;rintro e w' ⟨rfl,rfl⟩;go_wp2_with fail
 refine(An u hu _).mono ?_;rintro e w' ⟨rfl,rfl⟩;go_wp2_with fail
 refine(An a ha _).mono ?_;rintro e w' ⟨rfl,rfl⟩;go_wp2_with fail
 go_region_held3 (fun W=>W.cell? ⟨w.heap.size,2,none⟩=some (.int .i64 s)∧W.cell? ⟨w.heap.size,3,none⟩=some (.int .i64 t)∧W.cell? ⟨w.heap.size,7,none⟩=some (.int .i64 q)) (go_keep) (fail)
 by_cases h9:q<0
 ·skip
  go_wp2;go_ret;refine⟨congrArg (fun b=>Ending.returned (.bool b)) (show false=fin from ?_),?_⟩
  ·first |(rw[←hfin.out];done) |(rw[←hfin.out];simp[h9])
  ·apply_rules [Bd,Below.setCell,Below.alloc,hbe.out]<;>first |omega |(simp;omega)
 cases cmp with
 |false =>
  go_wp2;go_ret;refine⟨congrArg (fun b=>Ending.returned (.bool b)) (show false=fin from ?_),?_⟩
  ·first |(rw[←hfin.out];done) |(rw[←hfin.out];simp)
  ·apply_rules [Bd,Below.setCell,Below.alloc,hbe.out]<;>first |omega |(simp;omega)
 |true =>
  by_cases h8:q<places
  ·skip
   go_wp2;go_ret;refine⟨congrArg (fun b=>Ending.returned (.bool b)) (show true=fin from ?_),?_⟩
   ·first |(rw[←hfin.out];done) |(rw[←hfin.out];simp[h8,h9])
   ·apply_rules [Bd,Below.setCell,Below.alloc,hbe.out]<;>first |omega |(simp;omega)
  ·have h8b:decide (q<places)=false:=decide_eq_false h8;go_wp2;go_ret;refine⟨congrArg (fun b=>Ending.returned (.bool b)) (show false=fin from ?_),?_⟩
   ·first |(rw[←hfin.out];done) |(rw[←hfin.out];simp[h8])
   ·apply_rules [Bd,Below.setCell,Below.alloc,hbe.out]<;>first |omega |(simp;omega)
theorem LR(d s t u a k q places:Int)(w:World)(hd:0≤d∧d≤7)(hs:0≤s∧s≤7)(ht:0≤t∧t≤7)(hu:0≤u∧u≤7)(ha:0≤a∧a≤7)(hk:0≤k∧k≤4294967295) :
  Calls Tryz.prog 69 #[.agg #[.int .i64 10,.int .i64 d,.int .i64 s,.int .i64 t,.int .i64 u,.int .i64 a,.int .u32 k,.int .i64 q],.int .i64 places] w fun e w'=>e=.returned (.bool (AD ⟨10,d,s,t,u,a,k,q⟩ places))∧Below w.heap.size w w':=by
 rw[Ps d s t u a k q places hd hs ht hu ha hk];have keq:∀ W,(binOp .eql 114 (.agg #[.int .i64 10,.int .i64 0,.int .i64 0,.int .i64 0,.int .i64 0,.int .i64 0,.int .u32 0,.int .i64 q]) (.agg #[.int .i64 10,.int .i64 d,.int .i64 s,.int .i64 t,.int .i64 u,.int .i64 a,.int .u32 k,.int .i64 q])).run Tryz.prog W=.ok (.bool (decide ((⟨10,0,0,0,0,0,0,q⟩:In)=⟨10,d,s,t,u,a,k,q⟩))) W:=fun W=>D0 ⟨10,0,0,0,0,0,0,q⟩ ⟨10,d,s,t,u,a,k,q⟩ W
 generalize decide ((⟨10,0,0,0,0,0,0,q⟩:In)=⟨10,d,s,t,u,a,k,q⟩)=cmp at keq ⊢;generalize hfin:(!decide (q<0)&&cmp&&decide (q<places))=fin;replace hfin:=Az hfin;go_enter Tryz.func69,Tryz.ntmps69;go_wp2_with fail
 refine(Aw 10 _).mono ?_;rintro e w1 ⟨rfl,hb⟩;have BK:=Az (Bk hb (Bv w _));have z:w.heap.size<w1.heap.size:=Bl BK.out;have hbe:Below w.heap.size w w1:=((Below.refl w.heap.size w).alloc (Nl _) _).trans (hb.mono (by simp));replace hbe:=Az hbe;have c0:w1.cell? ⟨w.heap.size,0,none⟩=some (.int .i64 10):=(Bc BK.out 0).trans rfl;have c1:w1.cell? ⟨w.heap.size,1,none⟩=some (.int .i64 d):=(Bc BK.out 1).trans rfl;have c2:w1.cell? ⟨w.heap.size,2,none⟩=some (.int .i64 s):=(Bc BK.out 2).trans rfl;have c3:w1.cell? ⟨w.heap.size,3,none⟩=some (.int .i64 t):=(Bc BK.out 3).trans rfl;have c4:w1.cell? ⟨w.heap.size,4,none⟩=some (.int .i64 u):=(Bc BK.out 4).trans rfl;have c5:w1.cell? ⟨w.heap.size,5,none⟩=some (.int .i64 a):=(Bc BK.out 5).trans rfl;have c6:w1.cell? ⟨w.heap.size,6,none⟩=some (.int .u32 k):=(Bc BK.out 6).trans rfl;have c7:w1.cell? ⟨w.heap.size,7,none⟩=some (.int .i64 q):=(Bc BK.out 7).trans rfl;rw[show Aj 10=[106,117,109,112] from rfl];go_wp2_with fail
 refine(An d hd _).mono ?_;rintro e w' ⟨rfl,rfl⟩;go_wp2_with fail
 refine(An s hs _).mono ?_;rintro e w' ⟨rfl,rfl⟩;go_wp2_with fail
 refine(An t ht _).mono ?_;rintro e w' ⟨rfl,rfl⟩;go_wp2_with fail
 refine(An u hu _).mono ?_;rintro e w' ⟨rfl,rfl⟩;go_wp2_with fail
 refine(An a ha _).mono ?_;rintro e w' ⟨rfl,rfl⟩;by_cases h9:q<0
 ·skip
  go_wp2;go_ret;refine⟨congrArg (fun b=>Ending.returned (.bool b)) (show false=fin from ?_),?_⟩
  ·first |(rw[←hfin.out];done) |(rw[←hfin.out];simp[h9])
  ·apply_rules [Bd,Below.setCell,Below.alloc,hbe.out]<;>first |omega |(simp;omega)
 cases cmp with
 |false =>
  go_wp2;go_ret;refine⟨congrArg (fun b=>Ending.returned (.bool b)) (show false=fin from ?_),?_⟩
  ·first |(rw[←hfin.out];done) |(rw[←hfin.out];simp)
  ·apply_rules [Bd,Below.setCell,Below.alloc,hbe.out]<;>first |omega |(simp;omega)
 |true =>
  by_cases h8:q<places
  ·skip
   go_wp2;go_ret;refine⟨congrArg (fun b=>Ending.returned (.bool b)) (show true=fin from ?_),?_⟩
   ·first |(rw[←hfin.out];done) |(rw[←hfin.out];simp[h8,h9])
   ·apply_rules [Bd,Below.setCell,Below.alloc,hbe.out]<;>first |omega |(simp;omega)
  ·have h8b:decide (q<places)=false:=decide_eq_false h8;go_wp2;go_ret;refine⟨congrArg (fun b=>Ending.returned (.bool b)) (show false=fin from ?_),?_⟩
   ·first |(rw[←hfin.out];done) |(rw[←hfin.out];simp[h8])
   ·apply_rules [Bd,Below.setCell,Below.alloc,hbe.out]<;>first |omega |(simp;omega)
theorem LU(d s t u a k q places:Int)(w:World)(hd:0≤d∧d≤7)(hs:0≤s∧s≤7)(ht:0≤t∧t≤7)(hu:0≤u∧u≤7)(ha:0≤a∧a≤7)(hk:0≤k∧k≤4294967295) :
  Calls Tryz.prog 69 #[.agg #[.int .i64 11,.int .i64 d,.int .i64 s,.int .i64 t,.int .i64 u,.int .i64 a,.int .u32 k,.int .i64 q],.int .i64 places] w fun e w'=>e=.returned (.bool (AD ⟨11,d,s,t,u,a,k,q⟩ places))∧Below w.heap.size w w':=by
 rw[Pt d s t u a k q places hd hs ht hu ha hk];have keq:∀ W,(binOp .eql 114 (.agg #[.int .i64 11,.int .i64 d,.int .i64 0,.int .i64 0,.int .i64 0,.int .i64 0,.int .u32 0,.int .i64 0]) (.agg #[.int .i64 11,.int .i64 d,.int .i64 s,.int .i64 t,.int .i64 u,.int .i64 a,.int .u32 k,.int .i64 q])).run Tryz.prog W=.ok (.bool (decide ((⟨11,d,0,0,0,0,0,0⟩:In)=⟨11,d,s,t,u,a,k,q⟩))) W:=fun W=>D0 ⟨11,d,0,0,0,0,0,0⟩ ⟨11,d,s,t,u,a,k,q⟩ W
 generalize decide ((⟨11,d,0,0,0,0,0,0⟩:In)=⟨11,d,s,t,u,a,k,q⟩)=cmp at keq ⊢;generalize hfin:(cmp)=fin;replace hfin:=Az hfin;go_enter Tryz.func69,Tryz.ntmps69;go_wp2_with fail
 refine(Aw 11 _).mono ?_;rintro e w1 ⟨rfl,hb⟩;have BK:=Az (Bk hb (Bv w _));have z:w.heap.size<w1.heap.size:=Bl BK.out;have hbe:Below w.heap.size w w1:=((Below.refl w.heap.size w).alloc (Nl _) _).trans (hb.mono (by simp));replace hbe:=Az hbe;have c0:w1.cell? ⟨w.heap.size,0,none⟩=some (.int .i64 11):=(Bc BK.out 0).trans rfl;have c1:w1.cell? ⟨w.heap.size,1,none⟩=some (.int .i64 d):=(Bc BK.out 1).trans rfl;have c2:w1.cell? ⟨w.heap.size,2,none⟩=some (.int .i64 s):=(Bc BK.out 2).trans rfl;have c3:w1.cell? ⟨w.heap.size,3,none⟩=some (.int .i64 t):=(Bc BK.out 3).trans rfl;have c4:w1.cell? ⟨w.heap.size,4,none⟩=some (.int .i64 u):=(Bc BK.out 4).trans rfl;have c5:w1.cell? ⟨w.heap.size,5,none⟩=some (.int .i64 a):=(Bc BK.out 5).trans rfl;have c6:w1.cell? ⟨w.heap.size,6,none⟩=some (.int .u32 k):=(Bc BK.out 6).trans rfl;have c7:w1.cell? ⟨w.heap.size,7,none⟩=some (.int .i64 q):=(Bc BK.out 7).trans rfl;rw[show Aj 11=[115,101,108,102] from rfl];go_wp2_with fail
 refine(An d hd _).mono ?_;rintro e w' ⟨rfl,rfl⟩;go_wp2_with fail
 refine(An s hs _).mono ?_;rintro e w' ⟨rfl,rfl⟩;go_wp2_with fail
 refine(An t ht _).mono ?_;rintro e w' ⟨rfl,rfl⟩;go_wp2_with fail
 refine(An u hu _).mono ?_;rintro e w' ⟨rfl,rfl⟩;go_wp2_with fail
 refine(An a ha _).mono ?_;rintro e w' ⟨rfl,rfl⟩;cases cmp with
 |false =>
  go_wp2;go_ret;refine⟨congrArg (fun b=>Ending.returned (.bool b)) (show false=fin from ?_),?_⟩
  ·first |(rw[←hfin.out];done) |(rw[←hfin.out];simp)
  ·apply_rules [Bd,Below.setCell,Below.alloc,hbe.out]<;>first |omega |(simp;omega)
 |true =>
  go_wp2;go_ret;refine⟨congrArg (fun b=>Ending.returned (.bool b)) (show true=fin from ?_),?_⟩
  ·first |(rw[←hfin.out];done) |(rw[←hfin.out];simp)
  ·apply_rules [Bd,Below.setCell,Below.alloc,hbe.out]<;>first |omega |(simp;omega)
theorem LV(d s t u a k q places:Int)(w:World)(hd:0≤d∧d≤7)(hs:0≤s∧s≤7)(ht:0≤t∧t≤7)(hu:0≤u∧u≤7)(ha:0≤a∧a≤7)(hk:0≤k∧k≤4294967295) :
  Calls Tryz.prog 69 #[.agg #[.int .i64 12,.int .i64 d,.int .i64 s,.int .i64 t,.int .i64 u,.int .i64 a,.int .u32 k,.int .i64 q],.int .i64 places] w fun e w'=>e=.returned (.bool (AD ⟨12,d,s,t,u,a,k,q⟩ places))∧Below w.heap.size w w':=by
 rw[Pu d s t u a k q places hd hs ht hu ha hk];have keq:∀ W,(binOp .eql 114 (.agg #[.int .i64 12,.int .i64 0,.int .i64 0,.int .i64 0,.int .i64 0,.int .i64 0,.int .u32 k,.int .i64 0]) (.agg #[.int .i64 12,.int .i64 d,.int .i64 s,.int .i64 t,.int .i64 u,.int .i64 a,.int .u32 k,.int .i64 q])).run Tryz.prog W=.ok (.bool (decide ((⟨12,0,0,0,0,0,k,0⟩:In)=⟨12,d,s,t,u,a,k,q⟩))) W:=fun W=>D0 ⟨12,0,0,0,0,0,k,0⟩ ⟨12,d,s,t,u,a,k,q⟩ W
 generalize decide ((⟨12,0,0,0,0,0,k,0⟩:In)=⟨12,d,s,t,u,a,k,q⟩)=cmp at keq ⊢;generalize hfin:(!decide (k<1)&&!decide (4<k)&&cmp)=fin;replace hfin:=Az hfin;go_enter Tryz.func69,Tryz.ntmps69;go_wp2_with fail
 refine(Aw 12 _).mono ?_;rintro e w1 ⟨rfl,hb⟩;have BK:=Az (Bk hb (Bv w _));have z:w.heap.size<w1.heap.size:=Bl BK.out;have hbe:Below w.heap.size w w1:=((Below.refl w.heap.size w).alloc (Nl _) _).trans (hb.mono (by simp));replace hbe:=Az hbe;have c0:w1.cell? ⟨w.heap.size,0,none⟩=some (.int .i64 12):=(Bc BK.out 0).trans rfl;have c1:w1.cell? ⟨w.heap.size,1,none⟩=some (.int .i64 d):=(Bc BK.out 1).trans rfl;have c2:w1.cell? ⟨w.heap.size,2,none⟩=some (.int .i64 s):=(Bc BK.out 2).trans rfl;have c3:w1.cell? ⟨w.heap.size,3,none⟩=some (.int .i64 t):=(Bc BK.out 3).trans rfl;have c4:w1.cell? ⟨w.heap.size,4,none⟩=some (.int .i64 u):=(Bc BK.out 4).trans rfl;have c5:w1.cell? ⟨w.heap.size,5,none⟩=some (.int .i64 a):=(Bc BK.out 5).trans rfl;have c6:w1.cell? ⟨w.heap.size,6,none⟩=some (.int .u32 k):=(Bc BK.out 6).trans rfl;have c7:w1.cell? ⟨w.heap.size,7,none⟩=some (.int .i64 q):=(Bc BK.out 7).trans rfl;rw[show Aj 12=[109,97,114,107] from rfl];go_wp2_with fail
 refine(An d hd _).mono ?_;rintro e w' ⟨rfl,rfl⟩;go_wp2_with fail
 refine(An s hs _).mono ?_;rintro e w' ⟨rfl,rfl⟩;go_wp2_with fail
 refine(An t ht _).mono ?_;rintro e w' ⟨rfl,rfl⟩;go_wp2_with fail
 refine(An u hu _).mono ?_;rintro e w' ⟨rfl,rfl⟩;go_wp2_with fail
 refine(An a ha _).mono ?_;rintro e w' ⟨rfl,rfl⟩;by_cases h0:k<1
 ·skip
  go_wp2;go_ret;refine⟨congrArg (fun b=>Ending.returned (.bool b)) (show false=fin from ?_),?_⟩
  ·first |(rw[←hfin.out];done) |(rw[←hfin.out];simp[h0])
  ·apply_rules [Bd,Below.setCell,Below.alloc,hbe.out]<;>first |omega |(simp;omega)
 by_cases h1:4<k
 ·skip
  go_wp2;go_ret;refine⟨congrArg (fun b=>Ending.returned (.bool b)) (show false=fin from ?_),?_⟩
  ·first |(rw[←hfin.out];done) |(rw[←hfin.out];simp[h1])
  ·apply_rules [Bd,Below.setCell,Below.alloc,hbe.out]<;>first |omega |(simp;omega)
 cases cmp with
 |false =>
  go_wp2;go_ret;refine⟨congrArg (fun b=>Ending.returned (.bool b)) (show false=fin from ?_),?_⟩
  ·first |(rw[←hfin.out];done) |(rw[←hfin.out];simp)
  ·apply_rules [Bd,Below.setCell,Below.alloc,hbe.out]<;>first |omega |(simp;omega)
 |true =>
  go_wp2;go_ret;refine⟨congrArg (fun b=>Ending.returned (.bool b)) (show true=fin from ?_),?_⟩
  ·first |(rw[←hfin.out];done) |(rw[←hfin.out];simp[h0,h1])
  ·apply_rules [Bd,Below.setCell,Below.alloc,hbe.out]<;>first |omega |(simp;omega)
theorem LW(d s t u a k q places:Int)(w:World)(hd:0≤d∧d≤7)(hs:0≤s∧s≤7)(ht:0≤t∧t≤7)(hu:0≤u∧u≤7)(ha:0≤a∧a≤7)(hk:0≤k∧k≤4294967295) :
  Calls Tryz.prog 69 #[.agg #[.int .i64 13,.int .i64 d,.int .i64 s,.int .i64 t,.int .i64 u,.int .i64 a,.int .u32 k,.int .i64 q],.int .i64 places] w fun e w'=>e=.returned (.bool (AD ⟨13,d,s,t,u,a,k,q⟩ places))∧Below w.heap.size w w':=by
 rw[Pv d s t u a k q places hd hs ht hu ha hk];have keq:∀ W,(binOp .eql 114 (.agg #[.int .i64 13,.int .i64 0,.int .i64 0,.int .i64 0,.int .i64 0,.int .i64 0,.int .u32 k,.int .i64 0]) (.agg #[.int .i64 13,.int .i64 d,.int .i64 s,.int .i64 t,.int .i64 u,.int .i64 a,.int .u32 k,.int .i64 q])).run Tryz.prog W=.ok (.bool (decide ((⟨13,0,0,0,0,0,k,0⟩:In)=⟨13,d,s,t,u,a,k,q⟩))) W:=fun W=>D0 ⟨13,0,0,0,0,0,k,0⟩ ⟨13,d,s,t,u,a,k,q⟩ W
 generalize decide ((⟨13,0,0,0,0,0,k,0⟩:In)=⟨13,d,s,t,u,a,k,q⟩)=cmp at keq ⊢;generalize hfin:(!decide (3<k)&&cmp)=fin;replace hfin:=Az hfin;go_enter Tryz.func69,Tryz.ntmps69;go_wp2_with fail
 refine(Aw 13 _).mono ?_;rintro e w1 ⟨rfl,hb⟩;have BK:=Az (Bk hb (Bv w _));have z:w.heap.size<w1.heap.size:=Bl BK.out;have hbe:Below w.heap.size w w1:=((Below.refl w.heap.size w).alloc (Nl _) _).trans (hb.mono (by simp));replace hbe:=Az hbe;have c0:w1.cell? ⟨w.heap.size,0,none⟩=some (.int .i64 13):=(Bc BK.out 0).trans rfl;have c1:w1.cell? ⟨w.heap.size,1,none⟩=some (.int .i64 d):=(Bc BK.out 1).trans rfl;have c2:w1.cell? ⟨w.heap.size,2,none⟩=some (.int .i64 s):=(Bc BK.out 2).trans rfl;have c3:w1.cell? ⟨w.heap.size,3,none⟩=some (.int .i64 t):=(Bc BK.out 3).trans rfl;have c4:w1.cell? ⟨w.heap.size,4,none⟩=some (.int .i64 u):=(Bc BK.out 4).trans rfl;have c5:w1.cell? ⟨w.heap.size,5,none⟩=some (.int .i64 a):=(Bc BK.out 5).trans rfl;have c6:w1.cell? ⟨w.heap.size,6,none⟩=some (.int .u32 k):=(Bc BK.out 6).trans rfl;have c7:w1.cell? ⟨w.heap.size,7,none⟩=some (.int .i64 q):=(Bc BK.out 7).trans rfl;rw[show Aj 13=[100,111,110,101] from rfl];go_wp2_with fail
 refine(An d hd _).mono ?_;rintro e w' ⟨rfl,rfl⟩;go_wp2_with fail
 refine(An s hs _).mono ?_;rintro e w' ⟨rfl,rfl⟩;go_wp2_with fail
 refine(An t ht _).mono ?_;rintro e w' ⟨rfl,rfl⟩;go_wp2_with fail
 refine(An u hu _).mono ?_;rintro e w' ⟨rfl,rfl⟩;go_wp2_with fail
 refine(An a ha _).mono ?_;rintro e w' ⟨rfl,rfl⟩;by_cases h0:3<k
 ·skip
  go_wp2;go_ret;refine⟨congrArg (fun b=>Ending.returned (.bool b)) (show false=fin from ?_),?_⟩
  ·first |(rw[←hfin.out];done) |(rw[←hfin.out];simp[h0])
  ·apply_rules [Bd,Below.setCell,Below.alloc,hbe.out]<;>first |omega |(simp;omega)
 cases cmp with
 |false =>
  go_wp2;go_ret;refine⟨congrArg (fun b=>Ending.returned (.bool b)) (show false=fin from ?_),?_⟩
  ·first |(rw[←hfin.out];done) |(rw[←hfin.out];simp)
  ·apply_rules [Bd,Below.setCell,Below.alloc,hbe.out]<;>first |omega |(simp;omega)
 |true =>
  go_wp2;go_ret;refine⟨congrArg (fun b=>Ending.returned (.bool b)) (show true=fin from ?_),?_⟩
  ·first |(rw[←hfin.out];done) |(rw[←hfin.out];simp[h0])
  ·apply_rules [Bd,Below.setCell,Below.alloc,hbe.out]<;>first |omega |(simp;omega)
theorem Md(d s t u a k q places:Int)(w:World)(hd:0≤d∧d≤7)(hs:0≤s∧s≤7)(ht:0≤t∧t≤7)(hu:0≤u∧u≤7)(ha:0≤a∧a≤7)(hk:0≤k∧k≤4294967295) :
  Calls Tryz.prog 69 #[.agg #[.int .i64 22,.int .i64 d,.int .i64 s,.int .i64 t,.int .i64 u,.int .i64 a,.int .u32 k,.int .i64 q],.int .i64 places] w fun e w'=>e=.returned (.bool (AD ⟨22,d,s,t,u,a,k,q⟩ places))∧Below w.heap.size w w':=by
 rw[P4 d s t u a k q places hd hs ht hu ha hk];have keq:∀ W,(binOp .eql 114 (.agg #[.int .i64 22,.int .i64 d,.int .i64 0,.int .i64 0,.int .i64 0,.int .i64 0,.int .u32 0,.int .i64 0]) (.agg #[.int .i64 22,.int .i64 d,.int .i64 s,.int .i64 t,.int .i64 u,.int .i64 a,.int .u32 k,.int .i64 q])).run Tryz.prog W=.ok (.bool (decide ((⟨22,d,0,0,0,0,0,0⟩:In)=⟨22,d,s,t,u,a,k,q⟩))) W:=fun W=>D0 ⟨22,d,0,0,0,0,0,0⟩ ⟨22,d,s,t,u,a,k,q⟩ W
 generalize decide ((⟨22,d,0,0,0,0,0,0⟩:In)=⟨22,d,s,t,u,a,k,q⟩)=cmp at keq ⊢;generalize hfin:(cmp)=fin;replace hfin:=Az hfin;go_enter Tryz.func69,Tryz.ntmps69;go_wp2_with fail
 refine(Aw 22 _).mono ?_;rintro e w1 ⟨rfl,hb⟩;have BK:=Az (Bk hb (Bv w _));have z:w.heap.size<w1.heap.size:=Bl BK.out;have hbe:Below w.heap.size w w1:=((Below.refl w.heap.size w).alloc (Nl _) _).trans (hb.mono (by simp));replace hbe:=Az hbe;have c0:w1.cell? ⟨w.heap.size,0,none⟩=some (.int .i64 22):=(Bc BK.out 0).trans rfl;have c1:w1.cell? ⟨w.heap.size,1,none⟩=some (.int .i64 d):=(Bc BK.out 1).trans rfl;have c2:w1.cell? ⟨w.heap.size,2,none⟩=some (.int .i64 s):=(Bc BK.out 2).trans rfl;have c3:w1.cell? ⟨w.heap.size,3,none⟩=some (.int .i64 t):=(Bc BK.out 3).trans rfl;have c4:w1.cell? ⟨w.heap.size,4,none⟩=some (.int .i64 u):=(Bc BK.out 4).trans rfl;have c5:w1.cell? ⟨w.heap.size,5,none⟩=some (.int .i64 a):=(Bc BK.out 5).trans rfl;have c6:w1.cell? ⟨w.heap.size,6,none⟩=some (.int .u32 k):=(Bc BK.out 6).trans rfl;have c7:w1.cell? ⟨w.heap.size,7,none⟩=some (.int .i64 q):=(Bc BK.out 7).trans rfl;rw[show Aj 22=[116,97,107,101] from rfl];go_wp2_with fail
 refine(An d hd _).mono ?_;rintro e w' ⟨rfl,rfl⟩;go_wp2_with fail
 refine(An s hs _).mono ?_;rintro e w' ⟨rfl,rfl⟩;go_wp2_with fail
 refine(An t ht _).mono ?_;rintro e w' ⟨rfl,rfl⟩;go_wp2_with fail
 refine(An u hu _).mono ?_;rintro e w' ⟨rfl,rfl⟩;go_wp2_with fail
 refine(An a ha _).mono ?_;rintro e w' ⟨rfl,rfl⟩;cases cmp with
 |false =>
  go_wp2;go_ret;refine⟨congrArg (fun b=>Ending.returned (.bool b)) (show false=fin from ?_),?_⟩
  ·first |(rw[←hfin.out];done) |(rw[←hfin.out];simp)
  ·apply_rules [Bd,Below.setCell,Below.alloc,hbe.out]<;>first |omega |(simp;omega)
 |true =>
  go_wp2;go_ret;refine⟨congrArg (fun b=>Ending.returned (.bool b)) (show true=fin from ?_),?_⟩
  ·first |(rw[←hfin.out];done) |(rw[←hfin.out];simp)
  ·apply_rules [Bd,Below.setCell,Below.alloc,hbe.out]<;>first |omega |(simp;omega)
theorem Me(d s t u a k q places:Int)(w:World)(hd:0≤d∧d≤7)(hs:0≤s∧s≤7)(ht:0≤t∧t≤7)(hu:0≤u∧u≤7)(ha:0≤a∧a≤7)(hk:0≤k∧k≤4294967295) :
  Calls Tryz.prog 69 #[.agg #[.int .i64 23,.int .i64 d,.int .i64 s,.int .i64 t,.int .i64 u,.int .i64 a,.int .u32 k,.int .i64 q],.int .i64 places] w fun e w'=>e=.returned (.bool (AD ⟨23,d,s,t,u,a,k,q⟩ places))∧Below w.heap.size w w':=by
 rw[P5 d s t u a k q places hd hs ht hu ha hk];have keq:∀ W,(binOp .eql 114 (.agg #[.int .i64 23,.int .i64 0,.int .i64 s,.int .i64 0,.int .i64 0,.int .i64 0,.int .u32 0,.int .i64 0]) (.agg #[.int .i64 23,.int .i64 d,.int .i64 s,.int .i64 t,.int .i64 u,.int .i64 a,.int .u32 k,.int .i64 q])).run Tryz.prog W=.ok (.bool (decide ((⟨23,0,s,0,0,0,0,0⟩:In)=⟨23,d,s,t,u,a,k,q⟩))) W:=fun W=>D0 ⟨23,0,s,0,0,0,0,0⟩ ⟨23,d,s,t,u,a,k,q⟩ W
 generalize decide ((⟨23,0,s,0,0,0,0,0⟩:In)=⟨23,d,s,t,u,a,k,q⟩)=cmp at keq ⊢;generalize hfin:(cmp)=fin;replace hfin:=Az hfin;go_enter Tryz.func69,Tryz.ntmps69;go_wp2_with fail
 refine(Aw 23 _).mono ?_;rintro e w1 ⟨rfl,hb⟩;have BK:=Az (Bk hb (Bv w _));have z:w.heap.size<w1.heap.size:=Bl BK.out;have hbe:Below w.heap.size w w1:=((Below.refl w.heap.size w).alloc (Nl _) _).trans (hb.mono (by simp));replace hbe:=Az hbe;have c0:w1.cell? ⟨w.heap.size,0,none⟩=some (.int .i64 23):=(Bc BK.out 0).trans rfl;have c1:w1.cell? ⟨w.heap.size,1,none⟩=some (.int .i64 d):=(Bc BK.out 1).trans rfl;have c2:w1.cell? ⟨w.heap.size,2,none⟩=some (.int .i64 s):=(Bc BK.out 2).trans rfl;have c3:w1.cell? ⟨w.heap.size,3,none⟩=some (.int .i64 t):=(Bc BK.out 3).trans rfl;have c4:w1.cell? ⟨w.heap.size,4,none⟩=some (.int .i64 u):=(Bc BK.out 4).trans rfl;have c5:w1.cell? ⟨w.heap.size,5,none⟩=some (.int .i64 a):=(Bc BK.out 5).trans rfl;have c6:w1.cell? ⟨w.heap.size,6,none⟩=some (.int .u32 k):=(Bc BK.out 6).trans rfl;have c7:w1.cell? ⟨w.heap.size,7,none⟩=some (.int .i64 q):=(Bc BK.out 7).trans rfl;rw[show Aj 23=[102,114,101,101] from rfl];go_wp2_with fail
 refine(An d hd _).mono ?_;rintro e w' ⟨rfl,rfl⟩;go_wp2_with fail
 refine(An s hs _).mono ?_;rintro e w' ⟨rfl,rfl⟩;go_wp2_with fail
 refine(An t ht _).mono ?_;rintro e w' ⟨rfl,rfl⟩;go_wp2_with fail
 refine(An u hu _).mono ?_;rintro e w' ⟨rfl,rfl⟩;go_wp2_with fail
 refine(An a ha _).mono ?_;rintro e w' ⟨rfl,rfl⟩;cases cmp with
 |false =>
  go_wp2;go_ret;refine⟨congrArg (fun b=>Ending.returned (.bool b)) (show false=fin from ?_),?_⟩
  ·first |(rw[←hfin.out];done) |(rw[←hfin.out];simp)
  ·apply_rules [Bd,Below.setCell,Below.alloc,hbe.out]<;>first |omega |(simp;omega)
 |true =>
  go_wp2;go_ret;refine⟨congrArg (fun b=>Ending.returned (.bool b)) (show true=fin from ?_),?_⟩
  ·first |(rw[←hfin.out];done) |(rw[←hfin.out];simp)
  ·apply_rules [Bd,Below.setCell,Below.alloc,hbe.out]<;>first |omega |(simp;omega)
theorem OS(a b c:UInt8):(⟨#[a,b,c]⟩:ByteArray)=⟨[a,b,c].toArray⟩:=rfl
theorem OT(a b c d e:UInt8):(⟨#[a,b,c,d,e]⟩:ByteArray)=⟨[a,b,c,d,e].toArray⟩:=rfl
theorem Ta(d s t u a q:Int)(hf:In.fits ⟨21,d,s,t,u,a,0,q⟩)(hq:0≤q)(w:World) :
  Calls Tryz.prog 118 #[.agg #[.int .i64 21,.int .i64 d,.int .i64 s,.int .i64 t,.int .i64 u,.int .i64 a,.int .u32 0,.int .i64 q]] w fun e w'=>e=.returned (.string ⟨(Bh ⟨21,d,s,t,u,a,0,q⟩).toArray⟩)∧Below w.heap.size w w':=by
 have ew:BF ⟨21,d,s,t,u,a,0,q⟩ 87=[101,113]::(114::dec t)::[[101,108,115,101],dec q]:=by
  unfold BF;rw[show Ay 87=none from rfl];dsimp only;rw[if_neg (by omega),if_pos rfl,if_neg (show ¬q = -1 by omega)];rfl
 have te:Bh ⟨21,d,s,t,u,a,0,q⟩=(Aj 21++(((((32::114::dec d)++(32::dec a))++(32::114::dec s))++[32,101,113])++(32::114::dec t)))++([32,101,108,115,101]++(32::dec q)):=by
  show Go.Lib.join (Aj 21::List.flatten [[114::dec d],[dec a],[114::dec s],BF ⟨21,d,s,t,u,a,0,q⟩ 87]) [32]=_
  rw[ew];simp[B2,Go.Lib.join_one]
 clear ew;have CN:=Az (fun W=>Aw 21 W);have CK:=Az (fun W=>BO hf.k.1 hf.k.2 W);have CA:=Az (fun W=>BO hf.a.1 (Int.le_trans hf.a.2 (by decide)) W);have CQ:=Az (fun W=>BO hq (Int.le_trans hf.q.2 (by decide)) W);have Cd:=Az (fun W=>AL hf.d.1 (Int.le_trans hf.d.2 (by decide)) W);have Cs:=Az (fun W=>AL hf.s.1 (Int.le_trans hf.s.2 (by decide)) W);have Ct:=Az (fun W=>AL hf.t.1 (Int.le_trans hf.t.2 (by decide)) W);have lk0:=Bn hf.k.2;have lq0:=Bn (Int.le_trans hf.q.2 (show(1073741824:Int)≤4294967295 by decide));have ld0:=Bn (Int.le_trans hf.d.2 (show(7:Int)≤4294967295 by decide));have ls0:=Bn (Int.le_trans hf.s.2 (show(7:Int)≤4294967295 by decide));have lt0:=Bn (Int.le_trans hf.t.2 (show(7:Int)≤4294967295 by decide));have la0:=Bn (Int.le_trans hf.a.2 (show(7:Int)≤4294967295 by decide));dsimp only at lk0 lq0 ld0 ls0 lt0 la0 CN CK CA Cd Cs Ct CQ;have ln0:(Aj 21).length=5:=by decide
 have wk:IntKind.i64.wrap 0=0:=by decide
 have lk:¬9223372036854775807<1+(dec 0).length:=by omega
 have la:¬9223372036854775807<1+(dec a).length:=by omega
 have lq:¬9223372036854775807<1+(dec q).length:=by omega
 have b0:¬9223372036854775807<(((dec d).length+1+1)+(1+(dec a).length)):=by omega
 have b1:¬9223372036854775807<((((dec d).length+1+1)+(1+(dec a).length))+((dec s).length+1+1)):=by omega
 have b2:¬9223372036854775807<(((((dec d).length+1+1)+(1+(dec a).length))+((dec s).length+1+1))+3):=by omega
 have b3:¬9223372036854775807<((((((dec d).length+1+1)+(1+(dec a).length))+((dec s).length+1+1))+3)+((dec t).length+1+1)):=by omega
 have bn:¬9223372036854775807<(Aj 21).length+((((((dec d).length+1+1)+(1+(dec a).length))+((dec s).length+1+1))+3)+((dec t).length+1+1)):=by omega
 have be:¬9223372036854775807<5+(1+(dec q).length):=by omega
 have bz:¬9223372036854775807<(Aj 21).length+((((((dec d).length+1+1)+(1+(dec a).length))+((dec s).length+1+1))+3)+((dec t).length+1+1))+(5+(1+(dec q).length)):=by omega
 clear lk0 lq0 ld0 ls0 lt0 la0 ln0;have hS:=DM (w:=w) (W:=(w.alloc (.cells (In.cs ⟨21,d,s,t,u,a,0,q⟩) 114)).drew) ⟨Be (Bv w (.cells (In.cs ⟨21,d,s,t,u,a,0,q⟩) 114)),Bd ((Below.refl w.heap.size w).alloc (Nl _) _)⟩;replace hf:=Az hf;replace te:=Az te;go_enter Tryz.func118,Tryz.ntmps118;go_wp2_with fail
 go_region_held3 (fun W=>RB w W 21 d s t u a 0 q)
  (first |exact hS |exact Ad hb (by assumption))
  (first
   |(go_at_call 49;(with_reducible refine(CK.out _).mono ?_);rintro e w' ⟨rfl,hb⟩)
   |(go_at_call 49;(with_reducible refine(CA.out _).mono ?_);rintro e w' ⟨rfl,hb⟩))
 obtain⟨HA,y0,y1,y2,y3,y4,y5,y6,y7⟩:=Ad (Below.refl _ _) (by assumption);go_wp2_with fail
 refine(CQ.out _).mono ?_;rintro e w2 ⟨rfl,hb2⟩;obtain⟨HA,y0,y1,y2,y3,y4,y5,y6,y7⟩:=Ad hb2 ⟨HA,y0,y1,y2,y3,y4,y5,y6,y7⟩;go_wp2_with fail
 refine(CN.out _).mono ?_;rintro e w3 ⟨rfl,hb3⟩;obtain⟨HA,y0,y1,y2,y3,y4,y5,y6,y7⟩:=Ad hb3 ⟨HA,y0,y1,y2,y3,y4,y5,y6,y7⟩;go_wp2_with fail
 have hT:=Ad (Bd (Below.refl w3.heap.size w3)) ⟨HA,y0,y1,y2,y3,y4,y5,y6,y7⟩;go_region_held3 (fun W=>RB w W 21 d s t u a 0 q)
  (first |exact hT |exact Ad hb (by assumption))
  (first
   |(go_at_call 141;(with_reducible refine(Cd.out _).mono ?_);rintro e w' ⟨rfl,hb⟩)
   |(go_at_call 141;(with_reducible refine(Cs.out _).mono ?_);rintro e w' ⟨rfl,hb⟩)
   |(go_at_call 141;(with_reducible refine(Ct.out _).mono ?_);rintro e w' ⟨rfl,hb⟩))
 obtain⟨HA,y0,y1,y2,y3,y4,y5,y6,y7⟩:=Ad (Below.refl _ _) (by assumption);go_wp2;go_ret;refine⟨B4 ?_,HA.out.2⟩;rw[te.out];simp[Dd,OS,OT,B9]
theorem Rr(d s t u a:Int)(hf:In.fits ⟨21,d,s,t,u,a,0,(-1)⟩)(w:World) :
  Calls Tryz.prog 118 #[.agg #[.int .i64 21,.int .i64 d,.int .i64 s,.int .i64 t,.int .i64 u,.int .i64 a,.int .u32 0,.int .i64 (-1)]] w fun e w'=>e=.returned (.string ⟨(Bh ⟨21,d,s,t,u,a,0,(-1)⟩).toArray⟩)∧Below w.heap.size w w':=by
 have ew:BF ⟨21,d,s,t,u,a,0,(-1)⟩ 87=[101,113]::(114::dec t)::[]:=by
  unfold BF;rw[show Ay 87=none from rfl];dsimp only;rw[if_neg (by omega),if_pos rfl,if_pos rfl];rfl
 have te:Bh ⟨21,d,s,t,u,a,0,(-1)⟩=Aj 21++(((((32::114::dec d)++(32::dec a))++(32::114::dec s))++[32,101,113])++(32::114::dec t)):=by
  show Go.Lib.join (Aj 21::List.flatten [[114::dec d],[dec a],[114::dec s],BF ⟨21,d,s,t,u,a,0,(-1)⟩ 87]) [32]=_
  rw[ew];simp[B2,Go.Lib.join_one]
 clear ew;have CN:=Az (fun W=>Aw 21 W);have CK:=Az (fun W=>BO hf.k.1 hf.k.2 W);have CA:=Az (fun W=>BO hf.a.1 (Int.le_trans hf.a.2 (by decide)) W);have Cd:=Az (fun W=>AL hf.d.1 (Int.le_trans hf.d.2 (by decide)) W);have Cs:=Az (fun W=>AL hf.s.1 (Int.le_trans hf.s.2 (by decide)) W);have Ct:=Az (fun W=>AL hf.t.1 (Int.le_trans hf.t.2 (by decide)) W);have lk0:=Bn hf.k.2;have lq0:=Bn (Int.le_trans hf.q.2 (show(1073741824:Int)≤4294967295 by decide));have ld0:=Bn (Int.le_trans hf.d.2 (show(7:Int)≤4294967295 by decide));have ls0:=Bn (Int.le_trans hf.s.2 (show(7:Int)≤4294967295 by decide));have lt0:=Bn (Int.le_trans hf.t.2 (show(7:Int)≤4294967295 by decide));have la0:=Bn (Int.le_trans hf.a.2 (show(7:Int)≤4294967295 by decide));dsimp only at lk0 lq0 ld0 ls0 lt0 la0 CN CK CA Cd Cs Ct;have ln0:(Aj 21).length=5:=by decide
 have wk:IntKind.i64.wrap 0=0:=by decide
 have lk:¬9223372036854775807<1+(dec 0).length:=by omega
 have la:¬9223372036854775807<1+(dec a).length:=by omega
 have b0:¬9223372036854775807<(((dec d).length+1+1)+(1+(dec a).length)):=by omega
 have b1:¬9223372036854775807<((((dec d).length+1+1)+(1+(dec a).length))+((dec s).length+1+1)):=by omega
 have b2:¬9223372036854775807<(((((dec d).length+1+1)+(1+(dec a).length))+((dec s).length+1+1))+3):=by omega
 have b3:¬9223372036854775807<((((((dec d).length+1+1)+(1+(dec a).length))+((dec s).length+1+1))+3)+((dec t).length+1+1)):=by omega
 have bn:¬9223372036854775807<(Aj 21).length+((((((dec d).length+1+1)+(1+(dec a).length))+((dec s).length+1+1))+3)+((dec t).length+1+1)):=by omega
 clear lk0 lq0 ld0 ls0 lt0 la0 ln0;have hS:=DM (w:=w) (W:=(w.alloc (.cells (In.cs ⟨21,d,s,t,u,a,0,(-1)⟩) 114)).drew) ⟨Be (Bv w (.cells (In.cs ⟨21,d,s,t,u,a,0,(-1)⟩) 114)),Bd ((Below.refl w.heap.size w).alloc (Nl _) _)⟩;replace hf:=Az hf;replace te:=Az te;go_enter Tryz.func118,Tryz.ntmps118;go_wp2_with fail
 go_region_held3 (fun W=>RB w W 21 d s t u a 0 (-1))
  (first |exact hS |exact Ad hb (by assumption))
  (first
   |(go_at_call 49;(with_reducible refine(CK.out _).mono ?_);rintro e w' ⟨rfl,hb⟩)
   |(go_at_call 49;(with_reducible refine(CA.out _).mono ?_);rintro e w' ⟨rfl,hb⟩))
 obtain⟨HA,y0,y1,y2,y3,y4,y5,y6,y7⟩:=Ad (Below.refl _ _) (by assumption);go_wp2_with fail
 refine(CN.out _).mono ?_;rintro e w2 ⟨rfl,hb2⟩;obtain⟨HA,y0,y1,y2,y3,y4,y5,y6,y7⟩:=Ad hb2 ⟨HA,y0,y1,y2,y3,y4,y5,y6,y7⟩;go_wp2_with fail
 have hT:=Ad (Bd (Below.refl w2.heap.size w2)) ⟨HA,y0,y1,y2,y3,y4,y5,y6,y7⟩;go_region_held3 (fun W=>RB w W 21 d s t u a 0 (-1))
  (first |exact hT |exact Ad hb (by assumption))
  (first
   |(go_at_call 141;(with_reducible refine(Cd.out _).mono ?_);rintro e w' ⟨rfl,hb⟩)
   |(go_at_call 141;(with_reducible refine(Cs.out _).mono ?_);rintro e w' ⟨rfl,hb⟩)
   |(go_at_call 141;(with_reducible refine(Ct.out _).mono ?_);rintro e w' ⟨rfl,hb⟩))
 obtain⟨HA,y0,y1,y2,y3,y4,y5,y6,y7⟩:=Ad (Below.refl _ _) (by assumption);go_wp2;go_ret;refine⟨B4 ?_,HA.out.2⟩;rw[te.out];simp[Dd,OS,OT,B9]
theorem Tb(d s t u a q:Int)(hf:In.fits ⟨21,d,s,t,u,a,1,q⟩)(hq:0≤q)(w:World) :
  Calls Tryz.prog 118 #[.agg #[.int .i64 21,.int .i64 d,.int .i64 s,.int .i64 t,.int .i64 u,.int .i64 a,.int .u32 1,.int .i64 q]] w fun e w'=>e=.returned (.string ⟨(Bh ⟨21,d,s,t,u,a,1,q⟩).toArray⟩)∧Below w.heap.size w w':=by
 have ew:BF ⟨21,d,s,t,u,a,1,q⟩ 87=[110,101]::(114::dec t)::[[101,108,115,101],dec q]:=by
  unfold BF;rw[show Ay 87=none from rfl];dsimp only;rw[if_neg (by omega),if_pos rfl,if_neg (show ¬q = -1 by omega)];rfl
 have te:Bh ⟨21,d,s,t,u,a,1,q⟩=(Aj 21++(((((32::114::dec d)++(32::dec a))++(32::114::dec s))++[32,110,101])++(32::114::dec t)))++([32,101,108,115,101]++(32::dec q)):=by
  show Go.Lib.join (Aj 21::List.flatten [[114::dec d],[dec a],[114::dec s],BF ⟨21,d,s,t,u,a,1,q⟩ 87]) [32]=_
  rw[ew];simp[B2,Go.Lib.join_one]
 clear ew;have CN:=Az (fun W=>Aw 21 W);have CK:=Az (fun W=>BO hf.k.1 hf.k.2 W);have CA:=Az (fun W=>BO hf.a.1 (Int.le_trans hf.a.2 (by decide)) W);have CQ:=Az (fun W=>BO hq (Int.le_trans hf.q.2 (by decide)) W);have Cd:=Az (fun W=>AL hf.d.1 (Int.le_trans hf.d.2 (by decide)) W);have Cs:=Az (fun W=>AL hf.s.1 (Int.le_trans hf.s.2 (by decide)) W);have Ct:=Az (fun W=>AL hf.t.1 (Int.le_trans hf.t.2 (by decide)) W);have lk0:=Bn hf.k.2;have lq0:=Bn (Int.le_trans hf.q.2 (show(1073741824:Int)≤4294967295 by decide));have ld0:=Bn (Int.le_trans hf.d.2 (show(7:Int)≤4294967295 by decide));have ls0:=Bn (Int.le_trans hf.s.2 (show(7:Int)≤4294967295 by decide));have lt0:=Bn (Int.le_trans hf.t.2 (show(7:Int)≤4294967295 by decide));have la0:=Bn (Int.le_trans hf.a.2 (show(7:Int)≤4294967295 by decide));dsimp only at lk0 lq0 ld0 ls0 lt0 la0 CN CK CA Cd Cs Ct CQ;have ln0:(Aj 21).length=5:=by decide
 have wk:IntKind.i64.wrap 1=1:=by decide
 have lk:¬9223372036854775807<1+(dec 1).length:=by omega
 have la:¬9223372036854775807<1+(dec a).length:=by omega
 have lq:¬9223372036854775807<1+(dec q).length:=by omega
 have b0:¬9223372036854775807<(((dec d).length+1+1)+(1+(dec a).length)):=by omega
 have b1:¬9223372036854775807<((((dec d).length+1+1)+(1+(dec a).length))+((dec s).length+1+1)):=by omega
 have b2:¬9223372036854775807<(((((dec d).length+1+1)+(1+(dec a).length))+((dec s).length+1+1))+3):=by omega
 have b3:¬9223372036854775807<((((((dec d).length+1+1)+(1+(dec a).length))+((dec s).length+1+1))+3)+((dec t).length+1+1)):=by omega
 have bn:¬9223372036854775807<(Aj 21).length+((((((dec d).length+1+1)+(1+(dec a).length))+((dec s).length+1+1))+3)+((dec t).length+1+1)):=by omega
 have be:¬9223372036854775807<5+(1+(dec q).length):=by omega
 have bz:¬9223372036854775807<(Aj 21).length+((((((dec d).length+1+1)+(1+(dec a).length))+((dec s).length+1+1))+3)+((dec t).length+1+1))+(5+(1+(dec q).length)):=by omega
 clear lk0 lq0 ld0 ls0 lt0 la0 ln0;have hS:=DM (w:=w) (W:=(w.alloc (.cells (In.cs ⟨21,d,s,t,u,a,1,q⟩) 114)).drew) ⟨Be (Bv w (.cells (In.cs ⟨21,d,s,t,u,a,1,q⟩) 114)),Bd ((Below.refl w.heap.size w).alloc (Nl _) _)⟩;replace hf:=Az hf;replace te:=Az te;go_enter Tryz.func118,Tryz.ntmps118;go_wp2_with fail
 go_region_held3 (fun W=>RB w W 21 d s t u a 1 q)
  (first |exact hS |exact Ad hb (by assumption))
  (first
   |(go_at_call 49;(with_reducible refine(CK.out _).mono ?_);rintro e w' ⟨rfl,hb⟩)
   |(go_at_call 49;(with_reducible refine(CA.out _).mono ?_);rintro e w' ⟨rfl,hb⟩))
 obtain⟨HA,y0,y1,y2,y3,y4,y5,y6,y7⟩:=Ad (Below.refl _ _) (by assumption);go_wp2_with fail
 refine(CQ.out _).mono ?_;rintro e w2 ⟨rfl,hb2⟩;obtain⟨HA,y0,y1,y2,y3,y4,y5,y6,y7⟩:=Ad hb2 ⟨HA,y0,y1,y2,y3,y4,y5,y6,y7⟩;go_wp2_with fail
 refine(CN.out _).mono ?_;rintro e w3 ⟨rfl,hb3⟩;obtain⟨HA,y0,y1,y2,y3,y4,y5,y6,y7⟩:=Ad hb3 ⟨HA,y0,y1,y2,y3,y4,y5,y6,y7⟩;go_wp2_with fail
 have hT:=Ad (Bd (Below.refl w3.heap.size w3)) ⟨HA,y0,y1,y2,y3,y4,y5,y6,y7⟩;go_region_held3 (fun W=>RB w W 21 d s t u a 1 q)
  (first |exact hT |exact Ad hb (by assumption))
  (first
   |(go_at_call 141;(with_reducible refine(Cd.out _).mono ?_);rintro e w' ⟨rfl,hb⟩)
   |(go_at_call 141;(with_reducible refine(Cs.out _).mono ?_);rintro e w' ⟨rfl,hb⟩)
   |(go_at_call 141;(with_reducible refine(Ct.out _).mono ?_);rintro e w' ⟨rfl,hb⟩))
 obtain⟨HA,y0,y1,y2,y3,y4,y5,y6,y7⟩:=Ad (Below.refl _ _) (by assumption);go_wp2;go_ret;refine⟨B4 ?_,HA.out.2⟩;rw[te.out];simp[Dd,OS,OT,B9]
theorem Rt(d s t u a:Int)(hf:In.fits ⟨21,d,s,t,u,a,1,(-1)⟩)(w:World) :
  Calls Tryz.prog 118 #[.agg #[.int .i64 21,.int .i64 d,.int .i64 s,.int .i64 t,.int .i64 u,.int .i64 a,.int .u32 1,.int .i64 (-1)]] w fun e w'=>e=.returned (.string ⟨(Bh ⟨21,d,s,t,u,a,1,(-1)⟩).toArray⟩)∧Below w.heap.size w w':=by
 have ew:BF ⟨21,d,s,t,u,a,1,(-1)⟩ 87=[110,101]::(114::dec t)::[]:=by
  unfold BF;rw[show Ay 87=none from rfl];dsimp only;rw[if_neg (by omega),if_pos rfl,if_pos rfl];rfl
 have te:Bh ⟨21,d,s,t,u,a,1,(-1)⟩=Aj 21++(((((32::114::dec d)++(32::dec a))++(32::114::dec s))++[32,110,101])++(32::114::dec t)):=by
  show Go.Lib.join (Aj 21::List.flatten [[114::dec d],[dec a],[114::dec s],BF ⟨21,d,s,t,u,a,1,(-1)⟩ 87]) [32]=_
  rw[ew];simp[B2,Go.Lib.join_one]
 clear ew;have CN:=Az (fun W=>Aw 21 W);have CK:=Az (fun W=>BO hf.k.1 hf.k.2 W);have CA:=Az (fun W=>BO hf.a.1 (Int.le_trans hf.a.2 (by decide)) W);have Cd:=Az (fun W=>AL hf.d.1 (Int.le_trans hf.d.2 (by decide)) W);have Cs:=Az (fun W=>AL hf.s.1 (Int.le_trans hf.s.2 (by decide)) W);have Ct:=Az (fun W=>AL hf.t.1 (Int.le_trans hf.t.2 (by decide)) W);have lk0:=Bn hf.k.2;have lq0:=Bn (Int.le_trans hf.q.2 (show(1073741824:Int)≤4294967295 by decide));have ld0:=Bn (Int.le_trans hf.d.2 (show(7:Int)≤4294967295 by decide));have ls0:=Bn (Int.le_trans hf.s.2 (show(7:Int)≤4294967295 by decide));have lt0:=Bn (Int.le_trans hf.t.2 (show(7:Int)≤4294967295 by decide));have la0:=Bn (Int.le_trans hf.a.2 (show(7:Int)≤4294967295 by decide));dsimp only at lk0 lq0 ld0 ls0 lt0 la0 CN CK CA Cd Cs Ct;have ln0:(Aj 21).length=5:=by decide
 have wk:IntKind.i64.wrap 1=1:=by decide
 have lk:¬9223372036854775807<1+(dec 1).length:=by omega
 have la:¬9223372036854775807<1+(dec a).length:=by omega
 have b0:¬9223372036854775807<(((dec d).length+1+1)+(1+(dec a).length)):=by omega
 have b1:¬9223372036854775807<((((dec d).length+1+1)+(1+(dec a).length))+((dec s).length+1+1)):=by omega
 have b2:¬9223372036854775807<(((((dec d).length+1+1)+(1+(dec a).length))+((dec s).length+1+1))+3):=by omega
 have b3:¬9223372036854775807<((((((dec d).length+1+1)+(1+(dec a).length))+((dec s).length+1+1))+3)+((dec t).length+1+1)):=by omega
 have bn:¬9223372036854775807<(Aj 21).length+((((((dec d).length+1+1)+(1+(dec a).length))+((dec s).length+1+1))+3)+((dec t).length+1+1)):=by omega
 clear lk0 lq0 ld0 ls0 lt0 la0 ln0;have hS:=DM (w:=w) (W:=(w.alloc (.cells (In.cs ⟨21,d,s,t,u,a,1,(-1)⟩) 114)).drew) ⟨Be (Bv w (.cells (In.cs ⟨21,d,s,t,u,a,1,(-1)⟩) 114)),Bd ((Below.refl w.heap.size w).alloc (Nl _) _)⟩;replace hf:=Az hf;replace te:=Az te;go_enter Tryz.func118,Tryz.ntmps118;go_wp2_with fail
 go_region_held3 (fun W=>RB w W 21 d s t u a 1 (-1))
  (first |exact hS |exact Ad hb (by assumption))
  (first
   |(go_at_call 49;(with_reducible refine(CK.out _).mono ?_);rintro e w' ⟨rfl,hb⟩)
   |(go_at_call 49;(with_reducible refine(CA.out _).mono ?_);rintro e w' ⟨rfl,hb⟩))
 obtain⟨HA,y0,y1,y2,y3,y4,y5,y6,y7⟩:=Ad (Below.refl _ _) (by assumption);go_wp2_with fail
 refine(CN.out _).mono ?_;rintro e w2 ⟨rfl,hb2⟩;obtain⟨HA,y0,y1,y2,y3,y4,y5,y6,y7⟩:=Ad hb2 ⟨HA,y0,y1,y2,y3,y4,y5,y6,y7⟩;go_wp2_with fail
 have hT:=Ad (Bd (Below.refl w2.heap.size w2)) ⟨HA,y0,y1,y2,y3,y4,y5,y6,y7⟩;go_region_held3 (fun W=>RB w W 21 d s t u a 1 (-1))
  (first |exact hT |exact Ad hb (by assumption))
  (first
   |(go_at_call 141;(with_reducible refine(Cd.out _).mono ?_);rintro e w' ⟨rfl,hb⟩)
   |(go_at_call 141;(with_reducible refine(Cs.out _).mono ?_);rintro e w' ⟨rfl,hb⟩)
   |(go_at_call 141;(with_reducible refine(Ct.out _).mono ?_);rintro e w' ⟨rfl,hb⟩))
 obtain⟨HA,y0,y1,y2,y3,y4,y5,y6,y7⟩:=Ad (Below.refl _ _) (by assumption);go_wp2;go_ret;refine⟨B4 ?_,HA.out.2⟩;rw[te.out];simp[Dd,OS,OT,B9]
end
section
open Go Go.ChangeShapes Go.WideShapes Go.Deep Go.RowKit
set_option maxRecDepth 100000
theorem Iu{H:Type}{enc:TypeId×Value→H}{W:World}{base b0:Nat}{r:Reach}{sp:Nat→Bool}{held:Bool}{v:Value}{d:DataW H}{p:List MemPlace}(hv:Value.okWide Tryz.prog W r b0 52 v)(h:DataW.Trod enc Tryz.prog W base sp held 52 v d p) :
  ∃ x0 x1 x2,v=.agg #[.int .i64 x0,.int .i64 x1,.int .u32 x2]∧(Lit.int .u32 x2).wf=true:=by
 have c3:Tryz.prog.cellsOf 52=3:=by kernel_rfl
 have k0:Tryz.prog.cellsOf 3=1:=by kernel_rfl
 have k1:Tryz.prog.cellsOf 45=1:=by kernel_rfl
 obtain⟨cs,rfl,hsz⟩:=okWide_struct Tryz.underlying52 hv;obtain⟨cs⟩:=cs;obtain⟨fuel,hf⟩:=h;obtain⟨xs,k,_,_,_,hxl,hg⟩:=DataW.trod_struct Tryz.underlying52 hf
 match cs,hsz.trans c3,xs,hxl with
 |[v0,v1,v2],_,[y0,y1,y2],_ =>
  have g0:=hg 0 _ rfl;have g1:=hg 1 _ rfl;have g2:=hg 2 _ rfl;simp[k0,k1,Value.cells]at g0 g1 g2;obtain⟨x0,e0,_,_⟩:=DataW.trod_int Tryz.underlying3 g0;obtain⟨x1,e1,_,_⟩:=DataW.trod_int Tryz.underlying3 g1;obtain⟨x2,e2,_,w2⟩:=DataW.trod_int Tryz.underlying45 g2;cases e0;cases e1;cases e2;exact⟨x0,x1,x2,rfl,w2⟩
theorem LH:laidOutB Tryz.prog=true:=by kernel_rfl
theorem K4:Tryz.prog.readableRec 52=true:=by kernel_rfl
theorem RQ:52<Tryz.prog.types.size:=of_decide_eq_true (by kernel_rfl)
theorem Ha{H:Type}{enc:TypeId×Value→H}{W W':World}{v:Value}{d:DataW H}{p:List MemPlace}(h:DataW.Trod enc Tryz.prog W 0 (fun _=>true) true 52 v d p)(hb:Below W.heap.size W W')(hlt:∀ x∈p,x.block<W.heap.size) :
 DataW.Trod enc Tryz.prog W' 0 (fun b=>decide (b<W.heap.size)) true 52 v d p:=Below.trod LH K4 RQ h hb hlt
end
end Go.Proofs.YtjjpiefgdggghaaGreatDoor

/- Parts: RefRightD, RefTextA, RefTextB, RefTextD. -/
import Derived.Test.YtjjpiefgdggghaaGreatDoorA03
import Derived.Test.YtjjpiefgdggghaaGreatDoorA10
import Derived.Test.YtjjpiefgdggghaaGreatDoorA18
import Derived.RegionTactic
import Derived.BigRegion
import Derived.Deep.RegionHeld3
set_option linter.unusedVariables false
set_option linter.unusedSimpArgs false
set_option maxRecDepth 100000
set_option maxHeartbeats 40000000
namespace Go.Proofs.YtjjpiefgdggghaaGreatDoor
section
open Go.RowKit Go.Proofs.YtjjpiefgdggghaaGreatDoorW.PrintWords
theorem Ma(d s t u a k q places:Int)(w:World)(hd:0≤d∧d≤7)(hs:0≤s∧s≤7)(ht:0≤t∧t≤7)(hu:0≤u∧u≤7)(ha:0≤a∧a≤7)(hk:0≤k∧k≤4294967295) :
  Calls Tryz.prog 69 #[.agg #[.int .i64 19,.int .i64 d,.int .i64 s,.int .i64 t,.int .i64 u,.int .i64 a,.int .u32 k,.int .i64 q],.int .i64 places] w fun e w'=>e=.returned (.bool (AD ⟨19,d,s,t,u,a,k,q⟩ places))∧Below w.heap.size w w':=by
 rw[Pz d s t u a k q places hd hs ht hu ha hk];have keq:∀ W,(binOp .eql 114 (.agg #[.int .i64 19,.int .i64 d,.int .i64 s,.int .i64 t,.int .i64 u,.int .i64 a,.int .u32 0,.int .i64 0]) (.agg #[.int .i64 19,.int .i64 d,.int .i64 s,.int .i64 t,.int .i64 u,.int .i64 a,.int .u32 k,.int .i64 q])).run Tryz.prog W=.ok (.bool (decide ((⟨19,d,s,t,u,a,0,0⟩:In)=⟨19,d,s,t,u,a,k,q⟩))) W:=fun W=>D0 ⟨19,d,s,t,u,a,0,0⟩ ⟨19,d,s,t,u,a,k,q⟩ W
 generalize decide ((⟨19,d,s,t,u,a,0,0⟩:In)=⟨19,d,s,t,u,a,k,q⟩)=cmp at keq ⊢;generalize hfin:(cmp)=fin;replace hfin:=Az hfin;go_enter Tryz.func69,Tryz.ntmps69;go_wp2_with fail
 refine(Aw 19 _).mono ?_;rintro e w1 ⟨rfl,hb⟩;have BK:=Az (Bk hb (Bv w _));have z:w.heap.size<w1.heap.size:=Bl BK.out;have hbe:Below w.heap.size w w1:=((Below.refl w.heap.size w).alloc (Nl _) _).trans (hb.mono (by simp));replace hbe:=Az hbe;have c0:w1.cell? ⟨w.heap.size,0,none⟩=some (.int .i64 19):=(Bc BK.out 0).trans rfl;have c1:w1.cell? ⟨w.heap.size,1,none⟩=some (.int .i64 d):=(Bc BK.out 1).trans rfl;have c2:w1.cell? ⟨w.heap.size,2,none⟩=some (.int .i64 s):=(Bc BK.out 2).trans rfl;have c3:w1.cell? ⟨w.heap.size,3,none⟩=some (.int .i64 t):=(Bc BK.out 3).trans rfl;have c4:w1.cell? ⟨w.heap.size,4,none⟩=some (.int .i64 u):=(Bc BK.out 4).trans rfl;have c5:w1.cell? ⟨w.heap.size,5,none⟩=some (.int .i64 a):=(Bc BK.out 5).trans rfl;have c6:w1.cell? ⟨w.heap.size,6,none⟩=some (.int .u32 k):=(Bc BK.out 6).trans rfl;have c7:w1.cell? ⟨w.heap.size,7,none⟩=some (.int .i64 q):=(Bc BK.out 7).trans rfl;rw[show Aj 19=[99,97,115] from rfl];go_wp2_with fail
 refine(An d hd _).mono ?_;rintro e w' ⟨rfl,rfl⟩;go_wp2_with fail
 refine(An s hs _).mono ?_;rintro e w' ⟨rfl,rfl⟩;go_wp2_with fail
 refine(An t ht _).mono ?_;rintro e w' ⟨rfl,rfl⟩;go_wp2_with fail
 refine(An u hu _).mono ?_;rintro e w' ⟨rfl,rfl⟩;go_wp2_with fail
 refine(An a ha _).mono ?_;rintro e w' ⟨rfl,rfl⟩;go_wp2_with fail
 go_region_held3 (fun W=>W.cell? ⟨w.heap.size,1,none⟩=some (.int .i64 d)∧W.cell? ⟨w.heap.size,5,none⟩=some (.int .i64 a)∧W.cell? ⟨w.heap.size,2,none⟩=some (.int .i64 s)∧W.cell? ⟨w.heap.size,3,none⟩=some (.int .i64 t)∧W.cell? ⟨w.heap.size,4,none⟩=some (.int .i64 u)) (go_keep) (fail)
 cases cmp with
 |false =>
  go_wp2;go_ret;refine⟨congrArg (fun b=>Ending.returned (.bool b)) (show false=fin from ?_),?_⟩
  ·first |(rw[←hfin.out];done) |(rw[←hfin.out];simp)
  ·apply_rules [Bd,Below.setCell,Below.alloc,hbe.out]<;>first |omega |(simp;omega)
 |true =>
  go_wp2;go_ret;refine⟨congrArg (fun b=>Ending.returned (.bool b)) (show true=fin from ?_),?_⟩
  ·first |(rw[←hfin.out];done) |(rw[←hfin.out];simp)
  ·apply_rules [Bd,Below.setCell,Below.alloc,hbe.out]<;>first |omega |(simp;omega)
theorem Mc(d s t u a k q places:Int)(w:World)(hd:0≤d∧d≤7)(hs:0≤s∧s≤7)(ht:0≤t∧t≤7)(hu:0≤u∧u≤7)(ha:0≤a∧a≤7)(hk:0≤k∧k≤4294967295) :
  Calls Tryz.prog 69 #[.agg #[.int .i64 21,.int .i64 d,.int .i64 s,.int .i64 t,.int .i64 u,.int .i64 a,.int .u32 k,.int .i64 q],.int .i64 places] w fun e w'=>e=.returned (.bool (AD ⟨21,d,s,t,u,a,k,q⟩ places))∧Below w.heap.size w w':=by
 rw[P3 d s t u a k q places hd hs ht hu ha hk];have keq:∀ W,(binOp .eql 114 (.agg #[.int .i64 21,.int .i64 d,.int .i64 s,.int .i64 t,.int .i64 0,.int .i64 a,.int .u32 k,.int .i64 q]) (.agg #[.int .i64 21,.int .i64 d,.int .i64 s,.int .i64 t,.int .i64 u,.int .i64 a,.int .u32 k,.int .i64 q])).run Tryz.prog W=.ok (.bool (decide ((⟨21,d,s,t,0,a,k,q⟩:In)=⟨21,d,s,t,u,a,k,q⟩))) W:=fun W=>D0 ⟨21,d,s,t,0,a,k,q⟩ ⟨21,d,s,t,u,a,k,q⟩ W
 generalize decide ((⟨21,d,s,t,0,a,k,q⟩:In)=⟨21,d,s,t,u,a,k,q⟩)=cmp at keq ⊢;generalize hfin:(!decide (1<k)&&!decide (q < -1)&&cmp&&(decide (q = -1)||decide (q<places)))=fin;replace hfin:=Az hfin;go_enter Tryz.func69,Tryz.ntmps69;go_wp2_with fail
 refine(Aw 21 _).mono ?_;rintro e w1 ⟨rfl,hb⟩;have BK:=Az (Bk hb (Bv w _));have z:w.heap.size<w1.heap.size:=Bl BK.out;have hbe:Below w.heap.size w w1:=((Below.refl w.heap.size w).alloc (Nl _) _).trans (hb.mono (by simp));replace hbe:=Az hbe;have c0:w1.cell? ⟨w.heap.size,0,none⟩=some (.int .i64 21):=(Bc BK.out 0).trans rfl;have c1:w1.cell? ⟨w.heap.size,1,none⟩=some (.int .i64 d):=(Bc BK.out 1).trans rfl;have c2:w1.cell? ⟨w.heap.size,2,none⟩=some (.int .i64 s):=(Bc BK.out 2).trans rfl;have c3:w1.cell? ⟨w.heap.size,3,none⟩=some (.int .i64 t):=(Bc BK.out 3).trans rfl;have c4:w1.cell? ⟨w.heap.size,4,none⟩=some (.int .i64 u):=(Bc BK.out 4).trans rfl;have c5:w1.cell? ⟨w.heap.size,5,none⟩=some (.int .i64 a):=(Bc BK.out 5).trans rfl;have c6:w1.cell? ⟨w.heap.size,6,none⟩=some (.int .u32 k):=(Bc BK.out 6).trans rfl;have c7:w1.cell? ⟨w.heap.size,7,none⟩=some (.int .i64 q):=(Bc BK.out 7).trans rfl;rw[show Aj 21=[97,119,97,105,116] from rfl];go_wp2_with fail
 refine(An d hd _).mono ?_;rintro e w' ⟨rfl,rfl⟩;go_wp2_with fail
 refine(An s hs _).mono ?_;rintro e w' ⟨rfl,rfl⟩;go_wp2_with fail
 refine(An t ht _).mono ?_;rintro e w' ⟨rfl,rfl⟩;go_wp2_with fail
 refine(An u hu _).mono ?_;rintro e w' ⟨rfl,rfl⟩;go_wp2_with fail
 refine(An a ha _).mono ?_;rintro e w' ⟨rfl,rfl⟩;go_wp2_with fail
 go_region_held3 (fun W=>W.cell? ⟨w.heap.size,1,none⟩=some (.int .i64 d)∧W.cell? ⟨w.heap.size,5,none⟩=some (.int .i64 a)∧W.cell? ⟨w.heap.size,2,none⟩=some (.int .i64 s)∧W.cell? ⟨w.heap.size,3,none⟩=some (.int .i64 t)∧W.cell? ⟨w.heap.size,6,none⟩=some (.int .u32 k)∧W.cell? ⟨w.heap.size,7,none⟩=some (.int .i64 q)) (go_keep) (fail)
 by_cases h0:1<k
 ·skip
  go_wp2;go_ret;refine⟨congrArg (fun b=>Ending.returned (.bool b)) (show false=fin from ?_),?_⟩
  ·first |(rw[←hfin.out];done) |(rw[←hfin.out];simp[h0])
  ·apply_rules [Bd,Below.setCell,Below.alloc,hbe.out]<;>first |omega |(simp;omega)
 by_cases h1:q < -1
 ·skip
  go_wp2;go_ret;refine⟨congrArg (fun b=>Ending.returned (.bool b)) (show false=fin from ?_),?_⟩
  ·first |(rw[←hfin.out];done) |(rw[←hfin.out];simp[h1])
  ·apply_rules [Bd,Below.setCell,Below.alloc,hbe.out]<;>first |omega |(simp;omega)
 cases cmp with
 |false =>
  go_wp2;go_ret;refine⟨congrArg (fun b=>Ending.returned (.bool b)) (show false=fin from ?_),?_⟩
  ·first |(rw[←hfin.out];done) |(rw[←hfin.out];simp)
  ·apply_rules [Bd,Below.setCell,Below.alloc,hbe.out]<;>first |omega |(simp;omega)
 |true =>
  by_cases h7:q = -1
  ·have h7b:(q == -1)=true:=beq_iff_eq.2 h7;replace h7:=Az h7;go_wp2;go_ret;refine⟨congrArg (fun b=>Ending.returned (.bool b)) (show true=fin from ?_),?_⟩
   ·first |(rw[←hfin.out];done) |(rw[←hfin.out];simp[h0,h7.out])
   ·apply_rules [Bd,Below.setCell,Below.alloc,hbe.out]<;>first |omega |(simp;omega)
  have h7b:(q == -1)=false:=Bq h7;by_cases h8:q<places
  ·skip
   go_wp2;go_ret;refine⟨congrArg (fun b=>Ending.returned (.bool b)) (show true=fin from ?_),?_⟩
   ·first |(rw[←hfin.out];done) |(rw[←hfin.out];simp[h0,h1,h8])
   ·apply_rules [Bd,Below.setCell,Below.alloc,hbe.out]<;>first |omega |(simp;omega)
  ·have h8b:decide (q<places)=false:=decide_eq_false h8;go_wp2;go_ret;refine⟨congrArg (fun b=>Ending.returned (.bool b)) (show false=fin from ?_),?_⟩
   ·first |(rw[←hfin.out];done) |(rw[←hfin.out];simp[h7,h8])
   ·apply_rules [Bd,Below.setCell,Below.alloc,hbe.out]<;>first |omega |(simp;omega)
theorem WB(d s t u a k q:Int)(hf:In.fits ⟨1,d,s,t,u,a,k,q⟩)(w:World):Calls Tryz.prog 118 #[In.v ⟨1,d,s,t,u,a,k,q⟩] w fun e w'=>e=.returned (.string ⟨(Bh ⟨1,d,s,t,u,a,k,q⟩).toArray⟩)∧Below w.heap.size w w':=by
 have te:Bh ⟨1,d,s,t,u,a,k,q⟩=Aj 1++((32::114::dec d)++(32::dec k)):=by
  show Go.Lib.join (Aj 1::List.flatten [[114::dec d],[dec k]]) [32]=_
  simp[B2,Go.Lib.join_one]
 obtain⟨CK,CA,wk,lk,la,CQ,ld0,ls0,lt0,lu0,lk0,la0,lq0⟩:=BH hf;have CN:=Az (fun W=>Aw 1 W);have Cd:=Az (fun W=>AL hf.d.1 (Int.le_trans hf.d.2 (by decide)) W);dsimp only at Cd;have ln0:(Aj 1).length=5:=by decide
 have b2:¬9223372036854775807<(((dec d).length+1+1)+(1+(dec k).length)):=by omega
 have bn:¬9223372036854775807<(Aj 1).length+(((dec d).length+1+1)+(1+(dec k).length)):=by omega
 clear lk0 lq0 ld0 ls0 lt0 lu0 la0 ln0;have hS:=Br w 1 d s t u a k q;replace hf:=Az hf;replace te:=Az te;unfold In.v;go_enter Tryz.func118,Tryz.ntmps118;go_wp2_with fail
 go_region_held3 (fun W=>RB w W 1 d s t u a k q) (first |exact hS |exact Ad hb (by assumption))
  (first
   |(go_at_call 49;(with_reducible refine(CK.out _).mono ?_);rintro e w' ⟨rfl,hb⟩)
   |(go_at_call 49;(with_reducible refine(CA.out _).mono ?_);rintro e w' ⟨rfl,hb⟩))
 obtain⟨HA,y0,y1,y2,y3,y4,y5,y6,y7⟩:=Ad (Below.refl _ _) (by assumption);by_cases hq:0≤q;obtain⟨CQ,lq⟩:=CQ.out hq;go_wp2_with fail
 refine(CQ.out _).mono ?_;rintro e w2 ⟨rfl,hb2⟩;obtain⟨HA,y0,y1,y2,y3,y4,y5,y6,y7⟩:=Ad hb2 ⟨HA,y0,y1,y2,y3,y4,y5,y6,y7⟩;go_wp2_with fail
 rotate_left;go_wp2_with fail
 rotate_left;all_goals (
  refine(CN.out _).mono ?_;rintro e w2 ⟨rfl,hb2⟩;obtain⟨HA,y0,y1,y2,y3,y4,y5,y6,y7⟩:=Ad hb2 ⟨HA,y0,y1,y2,y3,y4,y5,y6,y7⟩;go_wp2_with fail
  refine(Cd.out _).mono ?_;rintro e w2 ⟨rfl,hb2⟩;obtain⟨HA,y0,y1,y2,y3,y4,y5,y6,y7⟩:=Ad hb2 ⟨HA,y0,y1,y2,y3,y4,y5,y6,y7⟩;go_wp2_with fail
  go_wp2;go_ret;refine⟨B4 ?_,HA.out.2⟩;rw[te.out];simp[Dd,B9])
theorem WC(d s t u a k q:Int)(hf:In.fits ⟨2,d,s,t,u,a,k,q⟩)(w:World):Calls Tryz.prog 118 #[In.v ⟨2,d,s,t,u,a,k,q⟩] w fun e w'=>e=.returned (.string ⟨(Bh ⟨2,d,s,t,u,a,k,q⟩).toArray⟩)∧Below w.heap.size w w':=by
 have te:Bh ⟨2,d,s,t,u,a,k,q⟩=Aj 2++((32::114::dec d)++(32::114::dec s)):=by
  show Go.Lib.join (Aj 2::List.flatten [[114::dec d],[114::dec s]]) [32]=_
  simp[B2,Go.Lib.join_one]
 obtain⟨CK,CA,wk,lk,la,CQ,ld0,ls0,lt0,lu0,lk0,la0,lq0⟩:=BH hf;have CN:=Az (fun W=>Aw 2 W);have Cd:=Az (fun W=>AL hf.d.1 (Int.le_trans hf.d.2 (by decide)) W);have Cs:=Az (fun W=>AL hf.s.1 (Int.le_trans hf.s.2 (by decide)) W);dsimp only at Cd Cs;have ln0:(Aj 2).length=4:=by decide
 have b2:¬9223372036854775807<(((dec d).length+1+1)+((dec s).length+1+1)):=by omega
 have bn:¬9223372036854775807<(Aj 2).length+(((dec d).length+1+1)+((dec s).length+1+1)):=by omega
 clear lk0 lq0 ld0 ls0 lt0 lu0 la0 ln0;have hS:=Br w 2 d s t u a k q;replace hf:=Az hf;replace te:=Az te;unfold In.v;go_enter Tryz.func118,Tryz.ntmps118;go_wp2_with fail
 go_region_held3 (fun W=>RB w W 2 d s t u a k q) (first |exact hS |exact Ad hb (by assumption))
  (first
   |(go_at_call 49;(with_reducible refine(CK.out _).mono ?_);rintro e w' ⟨rfl,hb⟩)
   |(go_at_call 49;(with_reducible refine(CA.out _).mono ?_);rintro e w' ⟨rfl,hb⟩))
 obtain⟨HA,y0,y1,y2,y3,y4,y5,y6,y7⟩:=Ad (Below.refl _ _) (by assumption);by_cases hq:0≤q;obtain⟨CQ,lq⟩:=CQ.out hq;go_wp2_with fail
 refine(CQ.out _).mono ?_;rintro e w2 ⟨rfl,hb2⟩;obtain⟨HA,y0,y1,y2,y3,y4,y5,y6,y7⟩:=Ad hb2 ⟨HA,y0,y1,y2,y3,y4,y5,y6,y7⟩;go_wp2_with fail
 rotate_left;go_wp2_with fail
 rotate_left;all_goals (
  refine(CN.out _).mono ?_;rintro e w2 ⟨rfl,hb2⟩;obtain⟨HA,y0,y1,y2,y3,y4,y5,y6,y7⟩:=Ad hb2 ⟨HA,y0,y1,y2,y3,y4,y5,y6,y7⟩;go_wp2_with fail
  have hT:=Ad (Bd (Below.refl _ _)) ⟨HA,y0,y1,y2,y3,y4,y5,y6,y7⟩;go_region_held3 (fun W=>RB w W 2 d s t u a k q) (first |exact hT |exact Ad hb (by assumption))
   (first
    |(go_at_call 141;(with_reducible refine(Cd.out _).mono ?_);rintro e w' ⟨rfl,hb⟩)
    |(go_at_call 141;(with_reducible refine(Cs.out _).mono ?_);rintro e w' ⟨rfl,hb⟩))
  obtain⟨HA,y0,y1,y2,y3,y4,y5,y6,y7⟩:=Ad (Below.refl _ _) (by assumption);go_wp2;go_ret;refine⟨B4 ?_,HA.out.2⟩;rw[te.out];simp[Dd,B9])
theorem WD(d s t u a k q:Int)(hf:In.fits ⟨3,d,s,t,u,a,k,q⟩)(w:World):Calls Tryz.prog 118 #[In.v ⟨3,d,s,t,u,a,k,q⟩] w fun e w'=>e=.returned (.string ⟨(Bh ⟨3,d,s,t,u,a,k,q⟩).toArray⟩)∧Below w.heap.size w w':=by
 have te:Bh ⟨3,d,s,t,u,a,k,q⟩=Aj 3++(((32::114::dec d)++(32::114::dec s))++(32::dec k)):=by
  show Go.Lib.join (Aj 3::List.flatten [[114::dec d],[114::dec s],[dec k]]) [32]=_
  simp[B2,Go.Lib.join_one]
 obtain⟨CK,CA,wk,lk,la,CQ,ld0,ls0,lt0,lu0,lk0,la0,lq0⟩:=BH hf;have CN:=Az (fun W=>Aw 3 W);have Cd:=Az (fun W=>AL hf.d.1 (Int.le_trans hf.d.2 (by decide)) W);have Cs:=Az (fun W=>AL hf.s.1 (Int.le_trans hf.s.2 (by decide)) W);dsimp only at Cd Cs;have ln0:(Aj 3).length=4:=by decide
 have b2:¬9223372036854775807<(((dec d).length+1+1)+((dec s).length+1+1)):=by omega
 have b3:¬9223372036854775807<((((dec d).length+1+1)+((dec s).length+1+1))+(1+(dec k).length)):=by omega
 have bn:¬9223372036854775807<(Aj 3).length+((((dec d).length+1+1)+((dec s).length+1+1))+(1+(dec k).length)):=by omega
 clear lk0 lq0 ld0 ls0 lt0 lu0 la0 ln0;have hS:=Br w 3 d s t u a k q;replace hf:=Az hf;replace te:=Az te;unfold In.v;go_enter Tryz.func118,Tryz.ntmps118;go_wp2_with fail
 go_region_held3 (fun W=>RB w W 3 d s t u a k q) (first |exact hS |exact Ad hb (by assumption))
  (first
   |(go_at_call 49;(with_reducible refine(CK.out _).mono ?_);rintro e w' ⟨rfl,hb⟩)
   |(go_at_call 49;(with_reducible refine(CA.out _).mono ?_);rintro e w' ⟨rfl,hb⟩))
 obtain⟨HA,y0,y1,y2,y3,y4,y5,y6,y7⟩:=Ad (Below.refl _ _) (by assumption);by_cases hq:0≤q;obtain⟨CQ,lq⟩:=CQ.out hq;go_wp2_with fail
 refine(CQ.out _).mono ?_;rintro e w2 ⟨rfl,hb2⟩;obtain⟨HA,y0,y1,y2,y3,y4,y5,y6,y7⟩:=Ad hb2 ⟨HA,y0,y1,y2,y3,y4,y5,y6,y7⟩;go_wp2_with fail
 rotate_left;go_wp2_with fail
 rotate_left;all_goals (
  refine(CN.out _).mono ?_;rintro e w2 ⟨rfl,hb2⟩;obtain⟨HA,y0,y1,y2,y3,y4,y5,y6,y7⟩:=Ad hb2 ⟨HA,y0,y1,y2,y3,y4,y5,y6,y7⟩;go_wp2_with fail
  have hT:=Ad (Bd (Below.refl _ _)) ⟨HA,y0,y1,y2,y3,y4,y5,y6,y7⟩;go_region_held3 (fun W=>RB w W 3 d s t u a k q) (first |exact hT |exact Ad hb (by assumption))
   (first
    |(go_at_call 141;(with_reducible refine(Cd.out _).mono ?_);rintro e w' ⟨rfl,hb⟩)
    |(go_at_call 141;(with_reducible refine(Cs.out _).mono ?_);rintro e w' ⟨rfl,hb⟩))
  obtain⟨HA,y0,y1,y2,y3,y4,y5,y6,y7⟩:=Ad (Below.refl _ _) (by assumption);go_wp2;go_ret;refine⟨B4 ?_,HA.out.2⟩;rw[te.out];simp[Dd,B9])
theorem WE(d s t u a k q:Int)(hf:In.fits ⟨4,d,s,t,u,a,k,q⟩)(w:World):Calls Tryz.prog 118 #[In.v ⟨4,d,s,t,u,a,k,q⟩] w fun e w'=>e=.returned (.string ⟨(Bh ⟨4,d,s,t,u,a,k,q⟩).toArray⟩)∧Below w.heap.size w w':=by
 have te:Bh ⟨4,d,s,t,u,a,k,q⟩=Aj 4++(((32::114::dec d)++(32::114::dec s))++(32::dec k)):=by
  show Go.Lib.join (Aj 4::List.flatten [[114::dec d],[114::dec s],[dec k]]) [32]=_
  simp[B2,Go.Lib.join_one]
 obtain⟨CK,CA,wk,lk,la,CQ,ld0,ls0,lt0,lu0,lk0,la0,lq0⟩:=BH hf;have CN:=Az (fun W=>Aw 4 W);have Cd:=Az (fun W=>AL hf.d.1 (Int.le_trans hf.d.2 (by decide)) W);have Cs:=Az (fun W=>AL hf.s.1 (Int.le_trans hf.s.2 (by decide)) W);dsimp only at Cd Cs;have ln0:(Aj 4).length=4:=by decide
 have b2:¬9223372036854775807<(((dec d).length+1+1)+((dec s).length+1+1)):=by omega
 have b3:¬9223372036854775807<((((dec d).length+1+1)+((dec s).length+1+1))+(1+(dec k).length)):=by omega
 have bn:¬9223372036854775807<(Aj 4).length+((((dec d).length+1+1)+((dec s).length+1+1))+(1+(dec k).length)):=by omega
 clear lk0 lq0 ld0 ls0 lt0 lu0 la0 ln0;have hS:=Br w 4 d s t u a k q;replace hf:=Az hf;replace te:=Az te;unfold In.v;go_enter Tryz.func118,Tryz.ntmps118;go_wp2_with fail
 go_region_held3 (fun W=>RB w W 4 d s t u a k q) (first |exact hS |exact Ad hb (by assumption))
  (first
   |(go_at_call 49;(with_reducible refine(CK.out _).mono ?_);rintro e w' ⟨rfl,hb⟩)
   |(go_at_call 49;(with_reducible refine(CA.out _).mono ?_);rintro e w' ⟨rfl,hb⟩))
 obtain⟨HA,y0,y1,y2,y3,y4,y5,y6,y7⟩:=Ad (Below.refl _ _) (by assumption);by_cases hq:0≤q;obtain⟨CQ,lq⟩:=CQ.out hq;go_wp2_with fail
 refine(CQ.out _).mono ?_;rintro e w2 ⟨rfl,hb2⟩;obtain⟨HA,y0,y1,y2,y3,y4,y5,y6,y7⟩:=Ad hb2 ⟨HA,y0,y1,y2,y3,y4,y5,y6,y7⟩;go_wp2_with fail
 rotate_left;go_wp2_with fail
 rotate_left;all_goals (
  refine(CN.out _).mono ?_;rintro e w2 ⟨rfl,hb2⟩;obtain⟨HA,y0,y1,y2,y3,y4,y5,y6,y7⟩:=Ad hb2 ⟨HA,y0,y1,y2,y3,y4,y5,y6,y7⟩;go_wp2_with fail
  have hT:=Ad (Bd (Below.refl _ _)) ⟨HA,y0,y1,y2,y3,y4,y5,y6,y7⟩;go_region_held3 (fun W=>RB w W 4 d s t u a k q) (first |exact hT |exact Ad hb (by assumption))
   (first
    |(go_at_call 141;(with_reducible refine(Cd.out _).mono ?_);rintro e w' ⟨rfl,hb⟩)
    |(go_at_call 141;(with_reducible refine(Cs.out _).mono ?_);rintro e w' ⟨rfl,hb⟩))
  obtain⟨HA,y0,y1,y2,y3,y4,y5,y6,y7⟩:=Ad (Below.refl _ _) (by assumption);go_wp2;go_ret;refine⟨B4 ?_,HA.out.2⟩;rw[te.out];simp[Dd,B9])
theorem WG(d s t u a k q:Int)(hf:In.fits ⟨5,d,s,t,u,a,k,q⟩)(w:World):Calls Tryz.prog 118 #[In.v ⟨5,d,s,t,u,a,k,q⟩] w fun e w'=>e=.returned (.string ⟨(Bh ⟨5,d,s,t,u,a,k,q⟩).toArray⟩)∧Below w.heap.size w w':=by
 have te:Bh ⟨5,d,s,t,u,a,k,q⟩=Aj 5++(((32::114::dec d)++(32::114::dec s))++(32::dec k)):=by
  show Go.Lib.join (Aj 5::List.flatten [[114::dec d],[114::dec s],[dec k]]) [32]=_
  simp[B2,Go.Lib.join_one]
 obtain⟨CK,CA,wk,lk,la,CQ,ld0,ls0,lt0,lu0,lk0,la0,lq0⟩:=BH hf;have CN:=Az (fun W=>Aw 5 W);have Cd:=Az (fun W=>AL hf.d.1 (Int.le_trans hf.d.2 (by decide)) W);have Cs:=Az (fun W=>AL hf.s.1 (Int.le_trans hf.s.2 (by decide)) W);dsimp only at Cd Cs;have ln0:(Aj 5).length=3:=by decide
 have b2:¬9223372036854775807<(((dec d).length+1+1)+((dec s).length+1+1)):=by omega
 have b3:¬9223372036854775807<((((dec d).length+1+1)+((dec s).length+1+1))+(1+(dec k).length)):=by omega
 have bn:¬9223372036854775807<(Aj 5).length+((((dec d).length+1+1)+((dec s).length+1+1))+(1+(dec k).length)):=by omega
 clear lk0 lq0 ld0 ls0 lt0 lu0 la0 ln0;have hS:=Br w 5 d s t u a k q;replace hf:=Az hf;replace te:=Az te;unfold In.v;go_enter Tryz.func118,Tryz.ntmps118;go_wp2_with fail
 go_region_held3 (fun W=>RB w W 5 d s t u a k q) (first |exact hS |exact Ad hb (by assumption))
  (first
   |(go_at_call 49;(with_reducible refine(CK.out _).mono ?_);rintro e w' ⟨rfl,hb⟩)
   |(go_at_call 49;(with_reducible refine(CA.out _).mono ?_);rintro e w' ⟨rfl,hb⟩))
 obtain⟨HA,y0,y1,y2,y3,y4,y5,y6,y7⟩:=Ad (Below.refl _ _) (by assumption);by_cases hq:0≤q;obtain⟨CQ,lq⟩:=CQ.out hq;go_wp2_with fail
 refine(CQ.out _).mono ?_;rintro e w2 ⟨rfl,hb2⟩;obtain⟨HA,y0,y1,y2,y3,y4,y5,y6,y7⟩:=Ad hb2 ⟨HA,y0,y1,y2,y3,y4,y5,y6,y7⟩;go_wp2_with fail
 rotate_left;go_wp2_with fail
 rotate_left;all_goals (
  refine(CN.out _).mono ?_;rintro e w2 ⟨rfl,hb2⟩;obtain⟨HA,y0,y1,y2,y3,y4,y5,y6,y7⟩:=Ad hb2 ⟨HA,y0,y1,y2,y3,y4,y5,y6,y7⟩;go_wp2_with fail
  have hT:=Ad (Bd (Below.refl _ _)) ⟨HA,y0,y1,y2,y3,y4,y5,y6,y7⟩;go_region_held3 (fun W=>RB w W 5 d s t u a k q) (first |exact hT |exact Ad hb (by assumption))
   (first
    |(go_at_call 141;(with_reducible refine(Cd.out _).mono ?_);rintro e w' ⟨rfl,hb⟩)
    |(go_at_call 141;(with_reducible refine(Cs.out _).mono ?_);rintro e w' ⟨rfl,hb⟩))
  obtain⟨HA,y0,y1,y2,y3,y4,y5,y6,y7⟩:=Ad (Below.refl _ _) (by assumption);go_wp2;go_ret;refine⟨B4 ?_,HA.out.2⟩;rw[te.out];simp[Dd,B9])
theorem Wh(d s t u a k q:Int)(hf:In.fits ⟨6,d,s,t,u,a,k,q⟩)(w:World):Calls Tryz.prog 118 #[In.v ⟨6,d,s,t,u,a,k,q⟩] w fun e w'=>e=.returned (.string ⟨(Bh ⟨6,d,s,t,u,a,k,q⟩).toArray⟩)∧Below w.heap.size w w':=by
 have te:Bh ⟨6,d,s,t,u,a,k,q⟩=Aj 6++(((32::114::dec d)++(32::114::dec s))++(32::dec k)):=by
  show Go.Lib.join (Aj 6::List.flatten [[114::dec d],[114::dec s],[dec k]]) [32]=_
  simp[B2,Go.Lib.join_one]
 obtain⟨CK,CA,wk,lk,la,CQ,ld0,ls0,lt0,lu0,lk0,la0,lq0⟩:=BH hf;have CN:=Az (fun W=>Aw 6 W);have Cd:=Az (fun W=>AL hf.d.1 (Int.le_trans hf.d.2 (by decide)) W);have Cs:=Az (fun W=>AL hf.s.1 (Int.le_trans hf.s.2 (by decide)) W);dsimp only at Cd Cs;have ln0:(Aj 6).length=3:=by decide
 have b2:¬9223372036854775807<(((dec d).length+1+1)+((dec s).length+1+1)):=by omega
 have b3:¬9223372036854775807<((((dec d).length+1+1)+((dec s).length+1+1))+(1+(dec k).length)):=by omega
 have bn:¬9223372036854775807<(Aj 6).length+((((dec d).length+1+1)+((dec s).length+1+1))+(1+(dec k).length)):=by omega
 clear lk0 lq0 ld0 ls0 lt0 lu0 la0 ln0;have hS:=Br w 6 d s t u a k q;replace hf:=Az hf;replace te:=Az te;unfold In.v;go_enter Tryz.func118,Tryz.ntmps118;go_wp2_with fail
 go_region_held3 (fun W=>RB w W 6 d s t u a k q) (first |exact hS |exact Ad hb (by assumption))
  (first
   |(go_at_call 49;(with_reducible refine(CK.out _).mono ?_);rintro e w' ⟨rfl,hb⟩)
   |(go_at_call 49;(with_reducible refine(CA.out _).mono ?_);rintro e w' ⟨rfl,hb⟩))
 obtain⟨HA,y0,y1,y2,y3,y4,y5,y6,y7⟩:=Ad (Below.refl _ _) (by assumption);by_cases hq:0≤q;obtain⟨CQ,lq⟩:=CQ.out hq;go_wp2_with fail
 refine(CQ.out _).mono ?_;rintro e w2 ⟨rfl,hb2⟩;obtain⟨HA,y0,y1,y2,y3,y4,y5,y6,y7⟩:=Ad hb2 ⟨HA,y0,y1,y2,y3,y4,y5,y6,y7⟩;go_wp2_with fail
 rotate_left;go_wp2_with fail
 rotate_left;all_goals (
  refine(CN.out _).mono ?_;rintro e w2 ⟨rfl,hb2⟩;obtain⟨HA,y0,y1,y2,y3,y4,y5,y6,y7⟩:=Ad hb2 ⟨HA,y0,y1,y2,y3,y4,y5,y6,y7⟩;go_wp2_with fail
  have hT:=Ad (Bd (Below.refl _ _)) ⟨HA,y0,y1,y2,y3,y4,y5,y6,y7⟩;go_region_held3 (fun W=>RB w W 6 d s t u a k q) (first |exact hT |exact Ad hb (by assumption))
   (first
    |(go_at_call 141;(with_reducible refine(Cd.out _).mono ?_);rintro e w' ⟨rfl,hb⟩)
    |(go_at_call 141;(with_reducible refine(Cs.out _).mono ?_);rintro e w' ⟨rfl,hb⟩))
  obtain⟨HA,y0,y1,y2,y3,y4,y5,y6,y7⟩:=Ad (Below.refl _ _) (by assumption);go_wp2;go_ret;refine⟨B4 ?_,HA.out.2⟩;rw[te.out];simp[Dd,B9])
theorem Wi(d s t u a k q:Int)(hf:In.fits ⟨7,d,s,t,u,a,k,q⟩)(w:World):Calls Tryz.prog 118 #[In.v ⟨7,d,s,t,u,a,k,q⟩] w fun e w'=>e=.returned (.string ⟨(Bh ⟨7,d,s,t,u,a,k,q⟩).toArray⟩)∧Below w.heap.size w w':=by
 have te:Bh ⟨7,d,s,t,u,a,k,q⟩=Aj 7++(((32::114::dec d)++(32::114::dec s))++(32::114::dec t)):=by
  show Go.Lib.join (Aj 7::List.flatten [[114::dec d],[114::dec s],[114::dec t]]) [32]=_
  simp[B2,Go.Lib.join_one]
 obtain⟨CK,CA,wk,lk,la,CQ,ld0,ls0,lt0,lu0,lk0,la0,lq0⟩:=BH hf;have CN:=Az (fun W=>Aw 7 W);have Cd:=Az (fun W=>AL hf.d.1 (Int.le_trans hf.d.2 (by decide)) W);have Cs:=Az (fun W=>AL hf.s.1 (Int.le_trans hf.s.2 (by decide)) W);have Ct:=Az (fun W=>AL hf.t.1 (Int.le_trans hf.t.2 (by decide)) W);dsimp only at Cd Cs Ct;have ln0:(Aj 7).length=2:=by decide
 have b2:¬9223372036854775807<(((dec d).length+1+1)+((dec s).length+1+1)):=by omega
 have b3:¬9223372036854775807<((((dec d).length+1+1)+((dec s).length+1+1))+((dec t).length+1+1)):=by omega
 have bn:¬9223372036854775807<(Aj 7).length+((((dec d).length+1+1)+((dec s).length+1+1))+((dec t).length+1+1)):=by omega
 clear lk0 lq0 ld0 ls0 lt0 lu0 la0 ln0;have hS:=Br w 7 d s t u a k q;replace hf:=Az hf;replace te:=Az te;unfold In.v;go_enter Tryz.func118,Tryz.ntmps118;go_wp2_with fail
 go_region_held3 (fun W=>RB w W 7 d s t u a k q) (first |exact hS |exact Ad hb (by assumption))
  (first
   |(go_at_call 49;(with_reducible refine(CK.out _).mono ?_);rintro e w' ⟨rfl,hb⟩)
   |(go_at_call 49;(with_reducible refine(CA.out _).mono ?_);rintro e w' ⟨rfl,hb⟩))
 obtain⟨HA,y0,y1,y2,y3,y4,y5,y6,y7⟩:=Ad (Below.refl _ _) (by assumption);by_cases hq:0≤q;obtain⟨CQ,lq⟩:=CQ.out hq;go_wp2_with fail
 refine(CQ.out _).mono ?_;rintro e w2 ⟨rfl,hb2⟩;obtain⟨HA,y0,y1,y2,y3,y4,y5,y6,y7⟩:=Ad hb2 ⟨HA,y0,y1,y2,y3,y4,y5,y6,y7⟩;go_wp2_with fail
 rotate_left;go_wp2_with fail
 rotate_left;all_goals (
  refine(CN.out _).mono ?_;rintro e w2 ⟨rfl,hb2⟩;obtain⟨HA,y0,y1,y2,y3,y4,y5,y6,y7⟩:=Ad hb2 ⟨HA,y0,y1,y2,y3,y4,y5,y6,y7⟩;go_wp2_with fail
  have hT:=Ad (Bd (Below.refl _ _)) ⟨HA,y0,y1,y2,y3,y4,y5,y6,y7⟩;go_region_held3 (fun W=>RB w W 7 d s t u a k q) (first |exact hT |exact Ad hb (by assumption))
   (first
    |(go_at_call 141;(with_reducible refine(Cd.out _).mono ?_);rintro e w' ⟨rfl,hb⟩)
    |(go_at_call 141;(with_reducible refine(Cs.out _).mono ?_);rintro e w' ⟨rfl,hb⟩)
    |(go_at_call 141;(with_reducible refine(Ct.out _).mono ?_);rintro e w' ⟨rfl,hb⟩))
  obtain⟨HA,y0,y1,y2,y3,y4,y5,y6,y7⟩:=Ad (Below.refl _ _) (by assumption);go_wp2;go_ret;refine⟨B4 ?_,HA.out.2⟩;rw[te.out];simp[Dd,B9])
theorem Wj(d s t u a k q:Int)(hf:In.fits ⟨8,d,s,t,u,a,k,q⟩)(hq:0≤q)(w:World):Calls Tryz.prog 118 #[In.v ⟨8,d,s,t,u,a,k,q⟩] w fun e w'=>e=.returned (.string ⟨(Bh ⟨8,d,s,t,u,a,k,q⟩).toArray⟩)∧Below w.heap.size w w':=by
 have te:Bh ⟨8,d,s,t,u,a,k,q⟩=Aj 8++(((32::114::dec s)++(32::114::dec t))++(32::dec q)):=by
  show Go.Lib.join (Aj 8::List.flatten [[114::dec s],[114::dec t],[dec q]]) [32]=_
  simp[B2,Go.Lib.join_one]
 obtain⟨CK,CA,wk,lk,la,CQ,ld0,ls0,lt0,lu0,lk0,la0,lq0⟩:=BH hf;have CN:=Az (fun W=>Aw 8 W);have Cs:=Az (fun W=>AL hf.s.1 (Int.le_trans hf.s.2 (by decide)) W);have Ct:=Az (fun W=>AL hf.t.1 (Int.le_trans hf.t.2 (by decide)) W);dsimp only at Cs Ct;have ln0:(Aj 8).length=3:=by decide
 have b2:¬9223372036854775807<(((dec s).length+1+1)+((dec t).length+1+1)):=by omega
 have b3:¬9223372036854775807<((((dec s).length+1+1)+((dec t).length+1+1))+(1+(dec q).length)):=by omega
 have bn:¬9223372036854775807<(Aj 8).length+((((dec s).length+1+1)+((dec t).length+1+1))+(1+(dec q).length)):=by omega
 clear lk0 lq0 ld0 ls0 lt0 lu0 la0 ln0;have hS:=Br w 8 d s t u a k q;replace hf:=Az hf;replace te:=Az te;unfold In.v;go_enter Tryz.func118,Tryz.ntmps118;go_wp2_with fail
 go_region_held3 (fun W=>RB w W 8 d s t u a k q) (first |exact hS |exact Ad hb (by assumption))
  (first
   |(go_at_call 49;(with_reducible refine(CK.out _).mono ?_);rintro e w' ⟨rfl,hb⟩)
   |(go_at_call 49;(with_reducible refine(CA.out _).mono ?_);rintro e w' ⟨rfl,hb⟩))
 obtain⟨HA,y0,y1,y2,y3,y4,y5,y6,y7⟩:=Ad (Below.refl _ _) (by assumption);obtain⟨CQ,lq⟩:=CQ.out hq;go_wp2_with fail
 refine(CQ.out _).mono ?_;rintro e w2 ⟨rfl,hb2⟩;obtain⟨HA,y0,y1,y2,y3,y4,y5,y6,y7⟩:=Ad hb2 ⟨HA,y0,y1,y2,y3,y4,y5,y6,y7⟩;go_wp2_with fail
 refine(CN.out _).mono ?_;rintro e w2 ⟨rfl,hb2⟩;obtain⟨HA,y0,y1,y2,y3,y4,y5,y6,y7⟩:=Ad hb2 ⟨HA,y0,y1,y2,y3,y4,y5,y6,y7⟩;go_wp2_with fail
 have hT:=Ad (Bd (Below.refl _ _)) ⟨HA,y0,y1,y2,y3,y4,y5,y6,y7⟩;go_region_held3 (fun W=>RB w W 8 d s t u a k q) (first |exact hT |exact Ad hb (by assumption))
  (first
   |(go_at_call 141;(with_reducible refine(Cs.out _).mono ?_);rintro e w' ⟨rfl,hb⟩)
   |(go_at_call 141;(with_reducible refine(Ct.out _).mono ?_);rintro e w' ⟨rfl,hb⟩))
 obtain⟨HA,y0,y1,y2,y3,y4,y5,y6,y7⟩:=Ad (Below.refl _ _) (by assumption);go_wp2;go_ret;refine⟨B4 ?_,HA.out.2⟩;rw[te.out];simp[Dd,B9]
theorem Wk(d s t u a k q:Int)(hf:In.fits ⟨9,d,s,t,u,a,k,q⟩)(hq:0≤q)(w:World):Calls Tryz.prog 118 #[In.v ⟨9,d,s,t,u,a,k,q⟩] w fun e w'=>e=.returned (.string ⟨(Bh ⟨9,d,s,t,u,a,k,q⟩).toArray⟩)∧Below w.heap.size w w':=by
 have te:Bh ⟨9,d,s,t,u,a,k,q⟩=Aj 9++(((32::114::dec s)++(32::114::dec t))++(32::dec q)):=by
  show Go.Lib.join (Aj 9::List.flatten [[114::dec s],[114::dec t],[dec q]]) [32]=_
  simp[B2,Go.Lib.join_one]
 obtain⟨CK,CA,wk,lk,la,CQ,ld0,ls0,lt0,lu0,lk0,la0,lq0⟩:=BH hf;have CN:=Az (fun W=>Aw 9 W);have Cs:=Az (fun W=>AL hf.s.1 (Int.le_trans hf.s.2 (by decide)) W);have Ct:=Az (fun W=>AL hf.t.1 (Int.le_trans hf.t.2 (by decide)) W);dsimp only at Cs Ct;have ln0:(Aj 9).length=3:=by decide
 have b2:¬9223372036854775807<(((dec s).length+1+1)+((dec t).length+1+1)):=by omega
 have b3:¬9223372036854775807<((((dec s).length+1+1)+((dec t).length+1+1))+(1+(dec q).length)):=by omega
 have bn:¬9223372036854775807<(Aj 9).length+((((dec s).length+1+1)+((dec t).length+1+1))+(1+(dec q).length)):=by omega
 clear lk0 lq0 ld0 ls0 lt0 lu0 la0 ln0;have hS:=Br w 9 d s t u a k q;replace hf:=Az hf;replace te:=Az te;unfold In.v;go_enter Tryz.func118,Tryz.ntmps118;go_wp2_with fail
 go_region_held3 (fun W=>RB w W 9 d s t u a k q) (first |exact hS |exact Ad hb (by assumption))
  (first
   |(go_at_call 49;(with_reducible refine(CK.out _).mono ?_);rintro e w' ⟨rfl,hb⟩)
   |(go_at_call 49;(with_reducible refine(CA.out _).mono ?_);rintro e w' ⟨rfl,hb⟩))
 obtain⟨HA,y0,y1,y2,y3,y4,y5,y6,y7⟩:=Ad (Below.refl _ _) (by assumption);obtain⟨CQ,lq⟩:=CQ.out hq;go_wp2_with fail
 refine(CQ.out _).mono ?_;rintro e w2 ⟨rfl,hb2⟩;obtain⟨HA,y0,y1,y2,y3,y4,y5,y6,y7⟩:=Ad hb2 ⟨HA,y0,y1,y2,y3,y4,y5,y6,y7⟩;go_wp2_with fail
 refine(CN.out _).mono ?_;rintro e w2 ⟨rfl,hb2⟩;obtain⟨HA,y0,y1,y2,y3,y4,y5,y6,y7⟩:=Ad hb2 ⟨HA,y0,y1,y2,y3,y4,y5,y6,y7⟩;go_wp2_with fail
 have hT:=Ad (Bd (Below.refl _ _)) ⟨HA,y0,y1,y2,y3,y4,y5,y6,y7⟩;go_region_held3 (fun W=>RB w W 9 d s t u a k q) (first |exact hT |exact Ad hb (by assumption))
  (first
   |(go_at_call 141;(with_reducible refine(Cs.out _).mono ?_);rintro e w' ⟨rfl,hb⟩)
   |(go_at_call 141;(with_reducible refine(Ct.out _).mono ?_);rintro e w' ⟨rfl,hb⟩))
 obtain⟨HA,y0,y1,y2,y3,y4,y5,y6,y7⟩:=Ad (Below.refl _ _) (by assumption);go_wp2;go_ret;refine⟨B4 ?_,HA.out.2⟩;rw[te.out];simp[Dd,B9]
theorem Vo(d s t u a k q:Int)(hf:In.fits ⟨10,d,s,t,u,a,k,q⟩)(hq:0≤q)(w:World):Calls Tryz.prog 118 #[In.v ⟨10,d,s,t,u,a,k,q⟩] w fun e w'=>e=.returned (.string ⟨(Bh ⟨10,d,s,t,u,a,k,q⟩).toArray⟩)∧Below w.heap.size w w':=by
 have te:Bh ⟨10,d,s,t,u,a,k,q⟩=Aj 10++(32::dec q):=by
  show Go.Lib.join (Aj 10::List.flatten [[dec q]]) [32]=_
  simp[B2,Go.Lib.join_one]
 obtain⟨CK,CA,wk,lk,la,CQ,ld0,ls0,lt0,lu0,lk0,la0,lq0⟩:=BH hf;have CN:=Az (fun W=>Aw 10 W);have ln0:(Aj 10).length=4:=by decide
 have bn:¬9223372036854775807<(Aj 10).length+(1+(dec q).length):=by omega
 clear lk0 lq0 ld0 ls0 lt0 lu0 la0 ln0;have hS:=Br w 10 d s t u a k q;replace hf:=Az hf;replace te:=Az te;unfold In.v;go_enter Tryz.func118,Tryz.ntmps118;go_wp2_with fail
 go_region_held3 (fun W=>RB w W 10 d s t u a k q) (first |exact hS |exact Ad hb (by assumption))
  (first
   |(go_at_call 49;(with_reducible refine(CK.out _).mono ?_);rintro e w' ⟨rfl,hb⟩)
   |(go_at_call 49;(with_reducible refine(CA.out _).mono ?_);rintro e w' ⟨rfl,hb⟩))
 obtain⟨HA,y0,y1,y2,y3,y4,y5,y6,y7⟩:=Ad (Below.refl _ _) (by assumption);obtain⟨CQ,lq⟩:=CQ.out hq;go_wp2_with fail
 refine(CQ.out _).mono ?_;rintro e w2 ⟨rfl,hb2⟩;obtain⟨HA,y0,y1,y2,y3,y4,y5,y6,y7⟩:=Ad hb2 ⟨HA,y0,y1,y2,y3,y4,y5,y6,y7⟩;go_wp2_with fail
 refine(CN.out _).mono ?_;rintro e w2 ⟨rfl,hb2⟩;obtain⟨HA,y0,y1,y2,y3,y4,y5,y6,y7⟩:=Ad hb2 ⟨HA,y0,y1,y2,y3,y4,y5,y6,y7⟩;go_wp2_with fail
 go_wp2;go_ret;refine⟨B4 ?_,HA.out.2⟩;rw[te.out];simp[Dd,B9]
theorem Vr(d s t u a k q:Int)(hf:In.fits ⟨18,d,s,t,u,a,k,q⟩)(w:World):Calls Tryz.prog 118 #[In.v ⟨18,d,s,t,u,a,k,q⟩] w fun e w'=>e=.returned (.string ⟨(Bh ⟨18,d,s,t,u,a,k,q⟩).toArray⟩)∧Below w.heap.size w w':=by
 have te:Bh ⟨18,d,s,t,u,a,k,q⟩=Aj 18++((((32::114::dec d)++(32::dec a))++(32::114::dec s))++(32::114::dec t)):=by
  show Go.Lib.join (Aj 18::List.flatten [[114::dec d],[dec a],[114::dec s],[114::dec t]]) [32]=_
  simp[B2,Go.Lib.join_one]
 obtain⟨CK,CA,wk,lk,la,CQ,ld0,ls0,lt0,lu0,lk0,la0,lq0⟩:=BH hf;have CN:=Az (fun W=>Aw 18 W);have Cd:=Az (fun W=>AL hf.d.1 (Int.le_trans hf.d.2 (by decide)) W);have Cs:=Az (fun W=>AL hf.s.1 (Int.le_trans hf.s.2 (by decide)) W);have Ct:=Az (fun W=>AL hf.t.1 (Int.le_trans hf.t.2 (by decide)) W);dsimp only at Cd Cs Ct;have ln0:(Aj 18).length=4:=by decide
 have b2:¬9223372036854775807<(((dec d).length+1+1)+(1+(dec a).length)):=by omega
 have b3:¬9223372036854775807<((((dec d).length+1+1)+(1+(dec a).length))+((dec s).length+1+1)):=by omega
 have b4:¬9223372036854775807<(((((dec d).length+1+1)+(1+(dec a).length))+((dec s).length+1+1))+((dec t).length+1+1)):=by omega
 have bn:¬9223372036854775807<(Aj 18).length+(((((dec d).length+1+1)+(1+(dec a).length))+((dec s).length+1+1))+((dec t).length+1+1)):=by omega
 clear lk0 lq0 ld0 ls0 lt0 lu0 la0 ln0;have hS:=Br w 18 d s t u a k q;replace hf:=Az hf;replace te:=Az te;unfold In.v;go_enter Tryz.func118,Tryz.ntmps118;go_wp2_with fail
 go_region_held3 (fun W=>RB w W 18 d s t u a k q) (first |exact hS |exact Ad hb (by assumption))
  (first
   |(go_at_call 49;(with_reducible refine(CK.out _).mono ?_);rintro e w' ⟨rfl,hb⟩)
   |(go_at_call 49;(with_reducible refine(CA.out _).mono ?_);rintro e w' ⟨rfl,hb⟩))
 obtain⟨HA,y0,y1,y2,y3,y4,y5,y6,y7⟩:=Ad (Below.refl _ _) (by assumption);by_cases hq:0≤q;obtain⟨CQ,lq⟩:=CQ.out hq;go_wp2_with fail
 refine(CQ.out _).mono ?_;rintro e w2 ⟨rfl,hb2⟩;obtain⟨HA,y0,y1,y2,y3,y4,y5,y6,y7⟩:=Ad hb2 ⟨HA,y0,y1,y2,y3,y4,y5,y6,y7⟩;go_wp2_with fail
 rotate_left;go_wp2_with fail
 rotate_left;all_goals (
  refine(CN.out _).mono ?_;rintro e w2 ⟨rfl,hb2⟩;obtain⟨HA,y0,y1,y2,y3,y4,y5,y6,y7⟩:=Ad hb2 ⟨HA,y0,y1,y2,y3,y4,y5,y6,y7⟩;go_wp2_with fail
  have hT:=Ad (Bd (Below.refl _ _)) ⟨HA,y0,y1,y2,y3,y4,y5,y6,y7⟩;go_region_held3 (fun W=>RB w W 18 d s t u a k q) (first |exact hT |exact Ad hb (by assumption))
   (first
    |(go_at_call 141;(with_reducible refine(Cd.out _).mono ?_);rintro e w' ⟨rfl,hb⟩)
    |(go_at_call 141;(with_reducible refine(Cs.out _).mono ?_);rintro e w' ⟨rfl,hb⟩)
    |(go_at_call 141;(with_reducible refine(Ct.out _).mono ?_);rintro e w' ⟨rfl,hb⟩))
  obtain⟨HA,y0,y1,y2,y3,y4,y5,y6,y7⟩:=Ad (Below.refl _ _) (by assumption);go_wp2;go_ret;refine⟨B4 ?_,HA.out.2⟩;rw[te.out];simp[Dd,B9])
theorem Vs(d s t u a k q:Int)(hf:In.fits ⟨19,d,s,t,u,a,k,q⟩)(w:World):Calls Tryz.prog 118 #[In.v ⟨19,d,s,t,u,a,k,q⟩] w fun e w'=>e=.returned (.string ⟨(Bh ⟨19,d,s,t,u,a,k,q⟩).toArray⟩)∧Below w.heap.size w w':=by
 have te:Bh ⟨19,d,s,t,u,a,k,q⟩=Aj 19++(((((32::114::dec d)++(32::dec a))++(32::114::dec s))++(32::114::dec t))++(32::114::dec u)):=by
  show Go.Lib.join (Aj 19::List.flatten [[114::dec d],[dec a],[114::dec s],[114::dec t],[114::dec u]]) [32]=_
  simp[B2,Go.Lib.join_one]
 obtain⟨CK,CA,wk,lk,la,CQ,ld0,ls0,lt0,lu0,lk0,la0,lq0⟩:=BH hf;have CN:=Az (fun W=>Aw 19 W);have Cd:=Az (fun W=>AL hf.d.1 (Int.le_trans hf.d.2 (by decide)) W);have Cs:=Az (fun W=>AL hf.s.1 (Int.le_trans hf.s.2 (by decide)) W);have Ct:=Az (fun W=>AL hf.t.1 (Int.le_trans hf.t.2 (by decide)) W);have Cu:=Az (fun W=>AL hf.u.1 (Int.le_trans hf.u.2 (by decide)) W);dsimp only at Cd Cs Ct Cu;have ln0:(Aj 19).length=3:=by decide
 have b2:¬9223372036854775807<(((dec d).length+1+1)+(1+(dec a).length)):=by omega
 have b3:¬9223372036854775807<((((dec d).length+1+1)+(1+(dec a).length))+((dec s).length+1+1)):=by omega
 have b4:¬9223372036854775807<(((((dec d).length+1+1)+(1+(dec a).length))+((dec s).length+1+1))+((dec t).length+1+1)):=by omega
 have b5:¬9223372036854775807<((((((dec d).length+1+1)+(1+(dec a).length))+((dec s).length+1+1))+((dec t).length+1+1))+((dec u).length+1+1)):=by omega
 have bn:¬9223372036854775807<(Aj 19).length+((((((dec d).length+1+1)+(1+(dec a).length))+((dec s).length+1+1))+((dec t).length+1+1))+((dec u).length+1+1)):=by omega
 clear lk0 lq0 ld0 ls0 lt0 lu0 la0 ln0;have hS:=Br w 19 d s t u a k q;replace hf:=Az hf;replace te:=Az te;unfold In.v;go_enter Tryz.func118,Tryz.ntmps118;go_wp2_with fail
 go_region_held3 (fun W=>RB w W 19 d s t u a k q) (first |exact hS |exact Ad hb (by assumption))
  (first
   |(go_at_call 49;(with_reducible refine(CK.out _).mono ?_);rintro e w' ⟨rfl,hb⟩)
   |(go_at_call 49;(with_reducible refine(CA.out _).mono ?_);rintro e w' ⟨rfl,hb⟩))
 obtain⟨HA,y0,y1,y2,y3,y4,y5,y6,y7⟩:=Ad (Below.refl _ _) (by assumption);by_cases hq:0≤q;obtain⟨CQ,lq⟩:=CQ.out hq;go_wp2_with fail
 refine(CQ.out _).mono ?_;rintro e w2 ⟨rfl,hb2⟩;obtain⟨HA,y0,y1,y2,y3,y4,y5,y6,y7⟩:=Ad hb2 ⟨HA,y0,y1,y2,y3,y4,y5,y6,y7⟩;go_wp2_with fail
 rotate_left;go_wp2_with fail
 rotate_left;all_goals (
  refine(CN.out _).mono ?_;rintro e w2 ⟨rfl,hb2⟩;obtain⟨HA,y0,y1,y2,y3,y4,y5,y6,y7⟩:=Ad hb2 ⟨HA,y0,y1,y2,y3,y4,y5,y6,y7⟩;go_wp2_with fail
  have hT:=Ad (Bd (Below.refl _ _)) ⟨HA,y0,y1,y2,y3,y4,y5,y6,y7⟩;go_region_held3 (fun W=>RB w W 19 d s t u a k q) (first |exact hT |exact Ad hb (by assumption))
   (first
    |(go_at_call 141;(with_reducible refine(Cd.out _).mono ?_);rintro e w' ⟨rfl,hb⟩)
    |(go_at_call 141;(with_reducible refine(Cs.out _).mono ?_);rintro e w' ⟨rfl,hb⟩)
    |(go_at_call 141;(with_reducible refine(Ct.out _).mono ?_);rintro e w' ⟨rfl,hb⟩)
    |(go_at_call 141;(with_reducible refine(Cu.out _).mono ?_);rintro e w' ⟨rfl,hb⟩))
  obtain⟨HA,y0,y1,y2,y3,y4,y5,y6,y7⟩:=Ad (Below.refl _ _) (by assumption);go_wp2;go_ret;refine⟨B4 ?_,HA.out.2⟩;rw[te.out];simp[Dd,B9])
theorem Vt(d s t u a k q:Int)(hf:In.fits ⟨20,d,s,t,u,a,k,q⟩)(w:World):Calls Tryz.prog 118 #[In.v ⟨20,d,s,t,u,a,k,q⟩] w fun e w'=>e=.returned (.string ⟨(Bh ⟨20,d,s,t,u,a,k,q⟩).toArray⟩)∧Below w.heap.size w w':=by
 have te:Bh ⟨20,d,s,t,u,a,k,q⟩=Aj 20++((((32::114::dec d)++(32::dec a))++(32::114::dec s))++(32::dec k)):=by
  show Go.Lib.join (Aj 20::List.flatten [[114::dec d],[dec a],[114::dec s],[dec k]]) [32]=_
  simp[B2,Go.Lib.join_one]
 obtain⟨CK,CA,wk,lk,la,CQ,ld0,ls0,lt0,lu0,lk0,la0,lq0⟩:=BH hf;have CN:=Az (fun W=>Aw 20 W);have Cd:=Az (fun W=>AL hf.d.1 (Int.le_trans hf.d.2 (by decide)) W);have Cs:=Az (fun W=>AL hf.s.1 (Int.le_trans hf.s.2 (by decide)) W);dsimp only at Cd Cs;have ln0:(Aj 20).length=4:=by decide
 have b2:¬9223372036854775807<(((dec d).length+1+1)+(1+(dec a).length)):=by omega
 have b3:¬9223372036854775807<((((dec d).length+1+1)+(1+(dec a).length))+((dec s).length+1+1)):=by omega
 have b4:¬9223372036854775807<(((((dec d).length+1+1)+(1+(dec a).length))+((dec s).length+1+1))+(1+(dec k).length)):=by omega
 have bn:¬9223372036854775807<(Aj 20).length+(((((dec d).length+1+1)+(1+(dec a).length))+((dec s).length+1+1))+(1+(dec k).length)):=by omega
 clear lk0 lq0 ld0 ls0 lt0 lu0 la0 ln0;have hS:=Br w 20 d s t u a k q;replace hf:=Az hf;replace te:=Az te;unfold In.v;go_enter Tryz.func118,Tryz.ntmps118;go_wp2_with fail
 go_region_held3 (fun W=>RB w W 20 d s t u a k q) (first |exact hS |exact Ad hb (by assumption))
  (first
   |(go_at_call 49;(with_reducible refine(CK.out _).mono ?_);rintro e w' ⟨rfl,hb⟩)
   |(go_at_call 49;(with_reducible refine(CA.out _).mono ?_);rintro e w' ⟨rfl,hb⟩))
 obtain⟨HA,y0,y1,y2,y3,y4,y5,y6,y7⟩:=Ad (Below.refl _ _) (by assumption);by_cases hq:0≤q;obtain⟨CQ,lq⟩:=CQ.out hq;go_wp2_with fail
 refine(CQ.out _).mono ?_;rintro e w2 ⟨rfl,hb2⟩;obtain⟨HA,y0,y1,y2,y3,y4,y5,y6,y7⟩:=Ad hb2 ⟨HA,y0,y1,y2,y3,y4,y5,y6,y7⟩;go_wp2_with fail
 rotate_left;go_wp2_with fail
 rotate_left;all_goals (
  refine(CN.out _).mono ?_;rintro e w2 ⟨rfl,hb2⟩;obtain⟨HA,y0,y1,y2,y3,y4,y5,y6,y7⟩:=Ad hb2 ⟨HA,y0,y1,y2,y3,y4,y5,y6,y7⟩;go_wp2_with fail
  have hT:=Ad (Bd (Below.refl _ _)) ⟨HA,y0,y1,y2,y3,y4,y5,y6,y7⟩;go_region_held3 (fun W=>RB w W 20 d s t u a k q) (first |exact hT |exact Ad hb (by assumption))
   (first
    |(go_at_call 141;(with_reducible refine(Cd.out _).mono ?_);rintro e w' ⟨rfl,hb⟩)
    |(go_at_call 141;(with_reducible refine(Cs.out _).mono ?_);rintro e w' ⟨rfl,hb⟩))
  obtain⟨HA,y0,y1,y2,y3,y4,y5,y6,y7⟩:=Ad (Below.refl _ _) (by assumption);go_wp2;go_ret;refine⟨B4 ?_,HA.out.2⟩;rw[te.out];simp[Dd,B9])
theorem Vu(d s t u a k q:Int)(hf:In.fits ⟨22,d,s,t,u,a,k,q⟩)(w:World):Calls Tryz.prog 118 #[In.v ⟨22,d,s,t,u,a,k,q⟩] w fun e w'=>e=.returned (.string ⟨(Bh ⟨22,d,s,t,u,a,k,q⟩).toArray⟩)∧Below w.heap.size w w':=by
 have te:Bh ⟨22,d,s,t,u,a,k,q⟩=Aj 22++(32::114::dec d):=by
  show Go.Lib.join (Aj 22::List.flatten [[114::dec d]]) [32]=_
  simp[B2,Go.Lib.join_one]
 obtain⟨CK,CA,wk,lk,la,CQ,ld0,ls0,lt0,lu0,lk0,la0,lq0⟩:=BH hf;have CN:=Az (fun W=>Aw 22 W);have Cd:=Az (fun W=>AL hf.d.1 (Int.le_trans hf.d.2 (by decide)) W);dsimp only at Cd;have ln0:(Aj 22).length=4:=by decide
 have bn:¬9223372036854775807<(Aj 22).length+((dec d).length+1+1):=by omega
 clear lk0 lq0 ld0 ls0 lt0 lu0 la0 ln0;have hS:=Br w 22 d s t u a k q;replace hf:=Az hf;replace te:=Az te;unfold In.v;go_enter Tryz.func118,Tryz.ntmps118;go_wp2_with fail
 go_region_held3 (fun W=>RB w W 22 d s t u a k q) (first |exact hS |exact Ad hb (by assumption))
  (first
   |(go_at_call 49;(with_reducible refine(CK.out _).mono ?_);rintro e w' ⟨rfl,hb⟩)
   |(go_at_call 49;(with_reducible refine(CA.out _).mono ?_);rintro e w' ⟨rfl,hb⟩))
 obtain⟨HA,y0,y1,y2,y3,y4,y5,y6,y7⟩:=Ad (Below.refl _ _) (by assumption);by_cases hq:0≤q;obtain⟨CQ,lq⟩:=CQ.out hq;go_wp2_with fail
 refine(CQ.out _).mono ?_;rintro e w2 ⟨rfl,hb2⟩;obtain⟨HA,y0,y1,y2,y3,y4,y5,y6,y7⟩:=Ad hb2 ⟨HA,y0,y1,y2,y3,y4,y5,y6,y7⟩;go_wp2_with fail
 rotate_left;go_wp2_with fail
 rotate_left;all_goals (
  refine(CN.out _).mono ?_;rintro e w2 ⟨rfl,hb2⟩;obtain⟨HA,y0,y1,y2,y3,y4,y5,y6,y7⟩:=Ad hb2 ⟨HA,y0,y1,y2,y3,y4,y5,y6,y7⟩;go_wp2_with fail
  refine(Cd.out _).mono ?_;rintro e w2 ⟨rfl,hb2⟩;obtain⟨HA,y0,y1,y2,y3,y4,y5,y6,y7⟩:=Ad hb2 ⟨HA,y0,y1,y2,y3,y4,y5,y6,y7⟩;go_wp2_with fail
  go_wp2;go_ret;refine⟨B4 ?_,HA.out.2⟩;rw[te.out];simp[Dd,B9])
theorem Vv(d s t u a k q:Int)(hf:In.fits ⟨23,d,s,t,u,a,k,q⟩)(w:World):Calls Tryz.prog 118 #[In.v ⟨23,d,s,t,u,a,k,q⟩] w fun e w'=>e=.returned (.string ⟨(Bh ⟨23,d,s,t,u,a,k,q⟩).toArray⟩)∧Below w.heap.size w w':=by
 have te:Bh ⟨23,d,s,t,u,a,k,q⟩=Aj 23++(32::114::dec s):=by
  show Go.Lib.join (Aj 23::List.flatten [[114::dec s]]) [32]=_
  simp[B2,Go.Lib.join_one]
 obtain⟨CK,CA,wk,lk,la,CQ,ld0,ls0,lt0,lu0,lk0,la0,lq0⟩:=BH hf;have CN:=Az (fun W=>Aw 23 W);have Cs:=Az (fun W=>AL hf.s.1 (Int.le_trans hf.s.2 (by decide)) W);dsimp only at Cs;have ln0:(Aj 23).length=4:=by decide
 have bn:¬9223372036854775807<(Aj 23).length+((dec s).length+1+1):=by omega
 clear lk0 lq0 ld0 ls0 lt0 lu0 la0 ln0;have hS:=Br w 23 d s t u a k q;replace hf:=Az hf;replace te:=Az te;unfold In.v;go_enter Tryz.func118,Tryz.ntmps118;go_wp2_with fail
 go_region_held3 (fun W=>RB w W 23 d s t u a k q) (first |exact hS |exact Ad hb (by assumption))
  (first
   |(go_at_call 49;(with_reducible refine(CK.out _).mono ?_);rintro e w' ⟨rfl,hb⟩)
   |(go_at_call 49;(with_reducible refine(CA.out _).mono ?_);rintro e w' ⟨rfl,hb⟩))
 obtain⟨HA,y0,y1,y2,y3,y4,y5,y6,y7⟩:=Ad (Below.refl _ _) (by assumption);by_cases hq:0≤q;obtain⟨CQ,lq⟩:=CQ.out hq;go_wp2_with fail
 refine(CQ.out _).mono ?_;rintro e w2 ⟨rfl,hb2⟩;obtain⟨HA,y0,y1,y2,y3,y4,y5,y6,y7⟩:=Ad hb2 ⟨HA,y0,y1,y2,y3,y4,y5,y6,y7⟩;go_wp2_with fail
 rotate_left;go_wp2_with fail
 rotate_left;all_goals (
  refine(CN.out _).mono ?_;rintro e w2 ⟨rfl,hb2⟩;obtain⟨HA,y0,y1,y2,y3,y4,y5,y6,y7⟩:=Ad hb2 ⟨HA,y0,y1,y2,y3,y4,y5,y6,y7⟩;go_wp2_with fail
  refine(Cs.out _).mono ?_;rintro e w2 ⟨rfl,hb2⟩;obtain⟨HA,y0,y1,y2,y3,y4,y5,y6,y7⟩:=Ad hb2 ⟨HA,y0,y1,y2,y3,y4,y5,y6,y7⟩;go_wp2_with fail
  go_wp2;go_ret;refine⟨B4 ?_,HA.out.2⟩;rw[te.out];simp[Dd,B9])
end
end Go.Proofs.YtjjpiefgdggghaaGreatDoor

/- Parts: RefRightD, RefRight, Rights, RunCame, RunOpA. -/
import Derived.Test.YtnmahobjmpdkdaaGreatDoorQ02
import Derived.Test.YtnmahobjmpdkdaaGreatDoorQ18
import Derived.Test.YtnmahobjmpdkdaaGreatDoorQ14
import Derived.Test.YtnmahobjmpdkdaaGreatDoorQ03
import Derived.RegionTactic
import Derived.BigRegion
import Derived.Deep.RegionHeld3
import Derived.Test.YtnmahobjmpdkdaaGreatDoorQ19
import Derived.Test.YtnmahobjmpdkdaaGreatDoorQ16
import Derived.Test.YtnmahobjmpdkdaaGreatDoorQ17
set_option linter.unusedVariables false
set_option linter.unusedSimpArgs false
set_option maxRecDepth 100000
set_option maxHeartbeats 40000000
namespace Go.Proofs.YtnmahobjmpdkdaaGreatDoor
section
open Go.RowKit Go.Proofs.YtnmahobjmpdkdaaGreatDoorW.PrintWords
theorem OL(d s t u a k q places:Int)(w:World)(hd:0≤d∧d≤7)(hs:0≤s∧s≤7)(ht:0≤t∧t≤7)(hu:0≤u∧u≤7)(ha:0≤a∧a≤7)(hk:0≤k∧k≤4294967295) :
  Calls Tryz.prog 64 #[.agg #[.int .i64 19,.int .i64 d,.int .i64 s,.int .i64 t,.int .i64 u,.int .i64 a,.int .u32 k,.int .i64 q],.int .i64 places] w fun e w'=>e=.returned (.bool (AO ⟨19,d,s,t,u,a,k,q⟩ places))∧Below w.heap.size w w':=by
 rw[RU d s t u a k q places hd hs ht hu ha hk];have keq:∀ W,(binOp .eql 90 (.agg #[.int .i64 19,.int .i64 d,.int .i64 s,.int .i64 t,.int .i64 u,.int .i64 a,.int .u32 0,.int .i64 0]) (.agg #[.int .i64 19,.int .i64 d,.int .i64 s,.int .i64 t,.int .i64 u,.int .i64 a,.int .u32 k,.int .i64 q])).run Tryz.prog W=.ok (.bool (decide ((⟨19,d,s,t,u,a,0,0⟩:In)=⟨19,d,s,t,u,a,k,q⟩))) W:=fun W=>DN ⟨19,d,s,t,u,a,0,0⟩ ⟨19,d,s,t,u,a,k,q⟩ W
 generalize decide ((⟨19,d,s,t,u,a,0,0⟩:In)=⟨19,d,s,t,u,a,k,q⟩)=cmp at keq ⊢;generalize hfin:(cmp)=fin;replace hfin:=Az hfin;go_enter Tryz.func64,Tryz.ntmps64;go_wp2_with fail
 refine(AA 19 _).mono ?_;rintro e w1 ⟨rfl,hb⟩;have BK:=Az (Bk hb (Bv w _));have z:w.heap.size<w1.heap.size:=Bl BK.out;have hbe:Below w.heap.size w w1:=((Below.refl w.heap.size w).alloc (Nl _) _).trans (hb.mono (by simp));replace hbe:=Az hbe;have c0:w1.cell? ⟨w.heap.size,0,none⟩=some (.int .i64 19):=(Bc BK.out 0).trans rfl;have c1:w1.cell? ⟨w.heap.size,1,none⟩=some (.int .i64 d):=(Bc BK.out 1).trans rfl;have c2:w1.cell? ⟨w.heap.size,2,none⟩=some (.int .i64 s):=(Bc BK.out 2).trans rfl;have c3:w1.cell? ⟨w.heap.size,3,none⟩=some (.int .i64 t):=(Bc BK.out 3).trans rfl;have c4:w1.cell? ⟨w.heap.size,4,none⟩=some (.int .i64 u):=(Bc BK.out 4).trans rfl;have c5:w1.cell? ⟨w.heap.size,5,none⟩=some (.int .i64 a):=(Bc BK.out 5).trans rfl;have c6:w1.cell? ⟨w.heap.size,6,none⟩=some (.int .u32 k):=(Bc BK.out 6).trans rfl;have c7:w1.cell? ⟨w.heap.size,7,none⟩=some (.int .i64 q):=(Bc BK.out 7).trans rfl;rw[show Aj 19=[99,97,115] from rfl];go_wp2_with fail
 refine(At d hd _).mono ?_;rintro e w' ⟨rfl,rfl⟩;go_wp2_with fail
 refine(At s hs _).mono ?_;rintro e w' ⟨rfl,rfl⟩;go_wp2_with fail
 refine(At t ht _).mono ?_;rintro e w' ⟨rfl,rfl⟩;go_wp2_with fail
 refine(At u hu _).mono ?_;rintro e w' ⟨rfl,rfl⟩;go_wp2_with fail
 refine(At a ha _).mono ?_;rintro e w' ⟨rfl,rfl⟩;go_wp2_with fail
 go_region_held3 (fun W=>W.cell? ⟨w.heap.size,1,none⟩=some (.int .i64 d)∧W.cell? ⟨w.heap.size,5,none⟩=some (.int .i64 a)∧W.cell? ⟨w.heap.size,2,none⟩=some (.int .i64 s)∧W.cell? ⟨w.heap.size,3,none⟩=some (.int .i64 t)∧W.cell? ⟨w.heap.size,4,none⟩=some (.int .i64 u)) (go_keep) (fail)
 cases cmp with
 |false =>
  go_wp2;go_ret;refine⟨congrArg (fun b=>Ending.returned (.bool b)) (show false=fin from ?_),?_⟩
  ·first |(rw[←hfin.out];done) |(rw[←hfin.out];simp)
  ·apply_rules [Bd,Below.setCell,Below.alloc,hbe.out]<;>first |omega |(simp;omega)
 |true =>
  go_wp2;go_ret;refine⟨congrArg (fun b=>Ending.returned (.bool b)) (show true=fin from ?_),?_⟩
  ·first |(rw[←hfin.out];done) |(rw[←hfin.out];simp)
  ·apply_rules [Bd,Below.setCell,Below.alloc,hbe.out]<;>first |omega |(simp;omega)
theorem OM(d s t u a k q places:Int)(w:World)(hd:0≤d∧d≤7)(hs:0≤s∧s≤7)(ht:0≤t∧t≤7)(hu:0≤u∧u≤7)(ha:0≤a∧a≤7)(hk:0≤k∧k≤4294967295) :
  Calls Tryz.prog 64 #[.agg #[.int .i64 21,.int .i64 d,.int .i64 s,.int .i64 t,.int .i64 u,.int .i64 a,.int .u32 k,.int .i64 q],.int .i64 places] w fun e w'=>e=.returned (.bool (AO ⟨21,d,s,t,u,a,k,q⟩ places))∧Below w.heap.size w w':=by
 rw[RW d s t u a k q places hd hs ht hu ha hk];have keq:∀ W,(binOp .eql 90 (.agg #[.int .i64 21,.int .i64 d,.int .i64 s,.int .i64 t,.int .i64 0,.int .i64 a,.int .u32 k,.int .i64 q]) (.agg #[.int .i64 21,.int .i64 d,.int .i64 s,.int .i64 t,.int .i64 u,.int .i64 a,.int .u32 k,.int .i64 q])).run Tryz.prog W=.ok (.bool (decide ((⟨21,d,s,t,0,a,k,q⟩:In)=⟨21,d,s,t,u,a,k,q⟩))) W:=fun W=>DN ⟨21,d,s,t,0,a,k,q⟩ ⟨21,d,s,t,u,a,k,q⟩ W
 generalize decide ((⟨21,d,s,t,0,a,k,q⟩:In)=⟨21,d,s,t,u,a,k,q⟩)=cmp at keq ⊢;generalize hfin:(!decide (1<k)&&!decide (q < -1)&&cmp&&(decide (q = -1)||decide (q<places)))=fin;replace hfin:=Az hfin;go_enter Tryz.func64,Tryz.ntmps64;go_wp2_with fail
 refine(AA 21 _).mono ?_;rintro e w1 ⟨rfl,hb⟩;have BK:=Az (Bk hb (Bv w _));have z:w.heap.size<w1.heap.size:=Bl BK.out;have hbe:Below w.heap.size w w1:=((Below.refl w.heap.size w).alloc (Nl _) _).trans (hb.mono (by simp));replace hbe:=Az hbe;have c0:w1.cell? ⟨w.heap.size,0,none⟩=some (.int .i64 21):=(Bc BK.out 0).trans rfl;have c1:w1.cell? ⟨w.heap.size,1,none⟩=some (.int .i64 d):=(Bc BK.out 1).trans rfl;have c2:w1.cell? ⟨w.heap.size,2,none⟩=some (.int .i64 s):=(Bc BK.out 2).trans rfl;have c3:w1.cell? ⟨w.heap.size,3,none⟩=some (.int .i64 t):=(Bc BK.out 3).trans rfl;have c4:w1.cell? ⟨w.heap.size,4,none⟩=some (.int .i64 u):=(Bc BK.out 4).trans rfl;have c5:w1.cell? ⟨w.heap.size,5,none⟩=some (.int .i64 a):=(Bc BK.out 5).trans rfl;have c6:w1.cell? ⟨w.heap.size,6,none⟩=some (.int .u32 k):=(Bc BK.out 6).trans rfl;have c7:w1.cell? ⟨w.heap.size,7,none⟩=some (.int .i64 q):=(Bc BK.out 7).trans rfl;rw[show Aj 21=[97,119,97,105,116] from rfl];go_wp2_with fail
 refine(At d hd _).mono ?_;rintro e w' ⟨rfl,rfl⟩;go_wp2_with fail
 refine(At s hs _).mono ?_;rintro e w' ⟨rfl,rfl⟩;go_wp2_with fail
 refine(At t ht _).mono ?_;rintro e w' ⟨rfl,rfl⟩;go_wp2_with fail
 refine(At u hu _).mono ?_;rintro e w' ⟨rfl,rfl⟩;go_wp2_with fail
 refine(At a ha _).mono ?_;rintro e w' ⟨rfl,rfl⟩;go_wp2_with fail
 go_region_held3 (fun W=>W.cell? ⟨w.heap.size,1,none⟩=some (.int .i64 d)∧W.cell? ⟨w.heap.size,5,none⟩=some (.int .i64 a)∧W.cell? ⟨w.heap.size,2,none⟩=some (.int .i64 s)∧W.cell? ⟨w.heap.size,3,none⟩=some (.int .i64 t)∧W.cell? ⟨w.heap.size,6,none⟩=some (.int .u32 k)∧W.cell? ⟨w.heap.size,7,none⟩=some (.int .i64 q)) (go_keep) (fail)
 by_cases h0:1<k
 ·skip
  go_wp2;go_ret;refine⟨congrArg (fun b=>Ending.returned (.bool b)) (show false=fin from ?_),?_⟩
  ·first |(rw[←hfin.out];done) |(rw[←hfin.out];simp[h0])
  ·apply_rules [Bd,Below.setCell,Below.alloc,hbe.out]<;>first |omega |(simp;omega)
 by_cases h1:q < -1
 ·skip
  go_wp2;go_ret;refine⟨congrArg (fun b=>Ending.returned (.bool b)) (show false=fin from ?_),?_⟩
  ·first |(rw[←hfin.out];done) |(rw[←hfin.out];simp[h1])
  ·apply_rules [Bd,Below.setCell,Below.alloc,hbe.out]<;>first |omega |(simp;omega)
 cases cmp with
 |false =>
  go_wp2;go_ret;refine⟨congrArg (fun b=>Ending.returned (.bool b)) (show false=fin from ?_),?_⟩
  ·first |(rw[←hfin.out];done) |(rw[←hfin.out];simp)
  ·apply_rules [Bd,Below.setCell,Below.alloc,hbe.out]<;>first |omega |(simp;omega)
 |true =>
  by_cases h7:q = -1
  ·have h7b:(q == -1)=true:=beq_iff_eq.2 h7;replace h7:=Az h7;go_wp2;go_ret;refine⟨congrArg (fun b=>Ending.returned (.bool b)) (show true=fin from ?_),?_⟩
   ·first |(rw[←hfin.out];done) |(rw[←hfin.out];simp[h0,h7.out])
   ·apply_rules [Bd,Below.setCell,Below.alloc,hbe.out]<;>first |omega |(simp;omega)
  have h7b:(q == -1)=false:=Bq h7;by_cases h8:q<places
  ·skip
   go_wp2;go_ret;refine⟨congrArg (fun b=>Ending.returned (.bool b)) (show true=fin from ?_),?_⟩
   ·first |(rw[←hfin.out];done) |(rw[←hfin.out];simp[h0,h1,h8])
   ·apply_rules [Bd,Below.setCell,Below.alloc,hbe.out]<;>first |omega |(simp;omega)
  ·have h8b:decide (q<places)=false:=decide_eq_false h8;go_wp2;go_ret;refine⟨congrArg (fun b=>Ending.returned (.bool b)) (show false=fin from ?_),?_⟩
   ·first |(rw[←hfin.out];done) |(rw[←hfin.out];simp[h7,h8])
   ·apply_rules [Bd,Below.setCell,Below.alloc,hbe.out]<;>first |omega |(simp;omega)
structure In.M1 (i:In):Prop where
 d:0≤i.d∧i.d≤7
 s:0≤i.s∧i.s≤7
 t:0≤i.t∧i.t≤7
 u:0≤i.u∧i.u≤7
 a:0≤i.a∧i.a≤7
theorem Qu{places s:Int}{r r':In}(h:BN places s r=some r')(hr:r'.M1):r.M1:=by
 unfold BN at h;obtain⟨h1,h2,h3,h4,h5⟩:=hr;cases hf:AH s with
 |some j =>
  rw[hf]at h;dsimp only at h;by_cases hb:r.get j<0∨7<r.get j
  ·rw[if_pos hb]at h;cases h
  rw[if_neg hb]at h;cases h;have hb':0≤r.get j∧r.get j≤7:=by omega
  clear hb;rcases CP hf with ⟨_,rfl⟩ |⟨_,rfl⟩ |⟨_,rfl⟩ |⟨_,rfl⟩ |⟨_,rfl⟩
  all_goals (simp only[In.put,In.get]at *;constructor<;>assumption)
 |none =>
  rw[hf]at h;dsimp only at h;by_cases c1:s=75
  ·rw[if_pos c1]at h;cases h;constructor<;>assumption
  rw[if_neg c1]at h;by_cases c2:s=66
  ·rw[if_pos c2]at h;by_cases b:31<r.k
   ·rw[if_pos b]at h;cases h
   rw[if_neg b]at h;cases h;constructor<;>assumption
  rw[if_neg c2]at h;by_cases c3:s=77
  ·rw[if_pos c3]at h;by_cases b:r.k<1∨4<r.k
   ·rw[if_pos b]at h;cases h
   rw[if_neg b]at h;cases h;constructor<;>assumption
  rw[if_neg c3]at h;by_cases c4:s=79
  ·rw[if_pos c4]at h;by_cases b:3<r.k
   ·rw[if_pos b]at h;cases h
   rw[if_neg b]at h;cases h;constructor<;>assumption
  rw[if_neg c4]at h;by_cases c5:s=87
  ·rw[if_pos c5]at h;by_cases b:1<r.k
   ·rw[if_pos b]at h;cases h
   rw[if_neg b]at h;by_cases b2:r.t<0∨7<r.t∨r.q < -1∨(r.q ≠ -1∧places≤r.q)
   ·rw[if_pos b2]at h;cases h
   rw[if_neg b2]at h;cases h;exact⟨h1,h2,by omega,h4,h5⟩
  rw[if_neg c5]at h;by_cases c6:s=80
  ·rw[if_pos c6]at h;by_cases b:r.q<0∨places≤r.q
   ·rw[if_pos b]at h;cases h
   rw[if_neg b]at h;cases h;exact⟨h1,h2,h3,h4,h5⟩
  rw[if_neg c6]at h;cases h;constructor<;>assumption
theorem Lk{places:Int}:∀ (l:List UInt8) (r r':In),Bb places l r=some r'→r'.M1→r.M1
 |[],r,r',h,hr=>by cases h;exact hr
 |c::l,r,r',h,hr=>by
  unfold Bb at h;cases hs:BN places (c.toNat:Int) r with
  |none=>rw[hs]at h;cases h
  |some r1 =>
   rw[hs]at h;exact Qu hs (Lk l r1 r' h hr)
theorem NI{i:In}{places:Int}(h:AO i places=true):Aj i.op≠[]:=by
 intro e;unfold AO at h;rw[if_pos e]at h;cases h
theorem Pf{i:In}{places:Int}(h:AO i places=true):i.M1:=by
 have hn:=NI h;rw[B4 _ _ hn]at h;cases hf:Bb places (Bm i.op) {i with op:=0} with
 |none=>rw[hf]at h;cases h
 |some r =>
  rw[hf]at h;have e:r=In.zero:=of_decide_eq_true h;subst e;have:=Lk _ _ _ hf ⟨by decide,by decide,by decide,by decide,by decide⟩;exact⟨this.d,this.s,this.t,this.u,this.a⟩
theorem JT(op d s t u a k q places:Int)(w:World)(hn:Aj op=[]) :
  Calls Tryz.prog 64 #[.agg #[.int .i64 op,.int .i64 d,.int .i64 s,.int .i64 t,.int .i64 u,.int .i64 a,.int .u32 k,.int .i64 q],.int .i64 places] w fun e w'=>e=.returned (.bool false)∧Below w.heap.size w w':=by
 replace hn:=Az hn;go_enter Tryz.func64,Tryz.ntmps64;go_wp2_with fail
 refine(AA op _).mono ?_;rintro e w1 ⟨rfl,hb⟩;rw[hn.out];go_wp2;go_ret;exact⟨rfl,((Below.refl w.heap.size w).alloc (Nl _) _).trans (hb.mono (by simp))⟩
theorem Ll(op d s t u a k q places:Int)(w:World)(hn:Aj op≠[])(hd:¬(0≤d∧d≤7)) :
  Calls Tryz.prog 64 #[.agg #[.int .i64 op,.int .i64 d,.int .i64 s,.int .i64 t,.int .i64 u,.int .i64 a,.int .u32 k,.int .i64 q],.int .i64 places] w fun e w'=>e=.returned (.bool false)∧Below w.heap.size w w':=by
 have hne:(Aj op).isEmpty=false:=by cases h:Aj op<;>simp_all
 clear hn;replace hd:=Az hd;go_enter Tryz.func64,Tryz.ntmps64;go_wp2_with fail
 refine(AA op _).mono ?_;rintro e w1 ⟨rfl,hb⟩;have BK:=Az (Bk hb (Bv w _));have z:w.heap.size<w1.heap.size:=Bl BK.out;have c1:w1.cell? ⟨w.heap.size,1,none⟩=some (.int .i64 d):=(Bc BK.out 1).trans rfl;go_wp2_with fail
 refine(KY d hd.out _).mono ?_;rintro e w' ⟨rfl,rfl⟩;go_wp2;go_ret;exact⟨rfl,((Below.refl w.heap.size w).alloc (Nl _) _).trans (hb.mono (by simp))⟩
theorem Lm(op d s t u a k q places:Int)(w:World)(hn:Aj op≠[])(hd:0≤d∧d≤7)(hs:¬(0≤s∧s≤7)) :
  Calls Tryz.prog 64 #[.agg #[.int .i64 op,.int .i64 d,.int .i64 s,.int .i64 t,.int .i64 u,.int .i64 a,.int .u32 k,.int .i64 q],.int .i64 places] w fun e w'=>e=.returned (.bool false)∧Below w.heap.size w w':=by
 have hne:(Aj op).isEmpty=false:=by cases h:Aj op<;>simp_all
 clear hn;replace hs:=Az hs;go_enter Tryz.func64,Tryz.ntmps64;go_wp2_with fail
 refine(AA op _).mono ?_;rintro e w1 ⟨rfl,hb⟩;have BK:=Az (Bk hb (Bv w _));have z:w.heap.size<w1.heap.size:=Bl BK.out;have c1:w1.cell? ⟨w.heap.size,1,none⟩=some (.int .i64 d):=(Bc BK.out 1).trans rfl;have c2:w1.cell? ⟨w.heap.size,2,none⟩=some (.int .i64 s):=(Bc BK.out 2).trans rfl;go_wp2_with fail
 refine(At d hd _).mono ?_;rintro e w' ⟨rfl,rfl⟩;go_wp2_with fail
 refine(KY s hs.out _).mono ?_;rintro e w' ⟨rfl,rfl⟩;go_wp2;go_ret;exact⟨rfl,((Below.refl w.heap.size w).alloc (Nl _) _).trans (hb.mono (by simp))⟩
theorem Ln(op d s t u a k q places:Int)(w:World)(hn:Aj op≠[])(hd:0≤d∧d≤7)(hs:0≤s∧s≤7)(ht:¬(0≤t∧t≤7)) :
  Calls Tryz.prog 64 #[.agg #[.int .i64 op,.int .i64 d,.int .i64 s,.int .i64 t,.int .i64 u,.int .i64 a,.int .u32 k,.int .i64 q],.int .i64 places] w fun e w'=>e=.returned (.bool false)∧Below w.heap.size w w':=by
 have hne:(Aj op).isEmpty=false:=by cases h:Aj op<;>simp_all
 clear hn;replace ht:=Az ht;go_enter Tryz.func64,Tryz.ntmps64;go_wp2_with fail
 refine(AA op _).mono ?_;rintro e w1 ⟨rfl,hb⟩;have BK:=Az (Bk hb (Bv w _));have z:w.heap.size<w1.heap.size:=Bl BK.out;have c1:w1.cell? ⟨w.heap.size,1,none⟩=some (.int .i64 d):=(Bc BK.out 1).trans rfl;have c2:w1.cell? ⟨w.heap.size,2,none⟩=some (.int .i64 s):=(Bc BK.out 2).trans rfl;have c3:w1.cell? ⟨w.heap.size,3,none⟩=some (.int .i64 t):=(Bc BK.out 3).trans rfl;go_wp2_with fail
 refine(At d hd _).mono ?_;rintro e w' ⟨rfl,rfl⟩;go_wp2_with fail
 refine(At s hs _).mono ?_;rintro e w' ⟨rfl,rfl⟩;go_wp2_with fail
 refine(KY t ht.out _).mono ?_;rintro e w' ⟨rfl,rfl⟩;go_wp2;go_ret;exact⟨rfl,((Below.refl w.heap.size w).alloc (Nl _) _).trans (hb.mono (by simp))⟩
theorem Lo(op d s t u a k q places:Int)(w:World)(hn:Aj op≠[])(hd:0≤d∧d≤7)(hs:0≤s∧s≤7)(ht:0≤t∧t≤7)(hu:¬(0≤u∧u≤7)) :
  Calls Tryz.prog 64 #[.agg #[.int .i64 op,.int .i64 d,.int .i64 s,.int .i64 t,.int .i64 u,.int .i64 a,.int .u32 k,.int .i64 q],.int .i64 places] w fun e w'=>e=.returned (.bool false)∧Below w.heap.size w w':=by
 have hne:(Aj op).isEmpty=false:=by cases h:Aj op<;>simp_all
 clear hn;replace hu:=Az hu;go_enter Tryz.func64,Tryz.ntmps64;go_wp2_with fail
 refine(AA op _).mono ?_;rintro e w1 ⟨rfl,hb⟩;have BK:=Az (Bk hb (Bv w _));have z:w.heap.size<w1.heap.size:=Bl BK.out;have c1:w1.cell? ⟨w.heap.size,1,none⟩=some (.int .i64 d):=(Bc BK.out 1).trans rfl;have c2:w1.cell? ⟨w.heap.size,2,none⟩=some (.int .i64 s):=(Bc BK.out 2).trans rfl;have c3:w1.cell? ⟨w.heap.size,3,none⟩=some (.int .i64 t):=(Bc BK.out 3).trans rfl;have c4:w1.cell? ⟨w.heap.size,4,none⟩=some (.int .i64 u):=(Bc BK.out 4).trans rfl;go_wp2_with fail
 refine(At d hd _).mono ?_;rintro e w' ⟨rfl,rfl⟩;go_wp2_with fail
 refine(At s hs _).mono ?_;rintro e w' ⟨rfl,rfl⟩;go_wp2_with fail
 refine(At t ht _).mono ?_;rintro e w' ⟨rfl,rfl⟩;go_wp2_with fail
 refine(KY u hu.out _).mono ?_;rintro e w' ⟨rfl,rfl⟩;go_wp2;go_ret;exact⟨rfl,((Below.refl w.heap.size w).alloc (Nl _) _).trans (hb.mono (by simp))⟩
theorem Lp(op d s t u a k q places:Int)(w:World)(hn:Aj op≠[])(hd:0≤d∧d≤7)(hs:0≤s∧s≤7)(ht:0≤t∧t≤7)(hu:0≤u∧u≤7)(ha:¬(0≤a∧a≤7)) :
  Calls Tryz.prog 64 #[.agg #[.int .i64 op,.int .i64 d,.int .i64 s,.int .i64 t,.int .i64 u,.int .i64 a,.int .u32 k,.int .i64 q],.int .i64 places] w fun e w'=>e=.returned (.bool false)∧Below w.heap.size w w':=by
 have hne:(Aj op).isEmpty=false:=by cases h:Aj op<;>simp_all
 clear hn;replace ha:=Az ha;go_enter Tryz.func64,Tryz.ntmps64;go_wp2_with fail
 refine(AA op _).mono ?_;rintro e w1 ⟨rfl,hb⟩;have BK:=Az (Bk hb (Bv w _));have z:w.heap.size<w1.heap.size:=Bl BK.out;have c1:w1.cell? ⟨w.heap.size,1,none⟩=some (.int .i64 d):=(Bc BK.out 1).trans rfl;have c2:w1.cell? ⟨w.heap.size,2,none⟩=some (.int .i64 s):=(Bc BK.out 2).trans rfl;have c3:w1.cell? ⟨w.heap.size,3,none⟩=some (.int .i64 t):=(Bc BK.out 3).trans rfl;have c4:w1.cell? ⟨w.heap.size,4,none⟩=some (.int .i64 u):=(Bc BK.out 4).trans rfl;have c5:w1.cell? ⟨w.heap.size,5,none⟩=some (.int .i64 a):=(Bc BK.out 5).trans rfl;go_wp2_with fail
 refine(At d hd _).mono ?_;rintro e w' ⟨rfl,rfl⟩;go_wp2_with fail
 refine(At s hs _).mono ?_;rintro e w' ⟨rfl,rfl⟩;go_wp2_with fail
 refine(At t ht _).mono ?_;rintro e w' ⟨rfl,rfl⟩;go_wp2_with fail
 refine(At u hu _).mono ?_;rintro e w' ⟨rfl,rfl⟩;go_wp2_with fail
 refine(KY a ha.out _).mono ?_;rintro e w' ⟨rfl,rfl⟩;go_wp2;go_ret;exact⟨rfl,((Below.refl w.heap.size w).alloc (Nl _) _).trans (hb.mono (by simp))⟩
theorem Hc(i:In)(places:Int)(hwk:i.wk)(w:World) :
  Calls Tryz.prog 64 #[i.v,.int .i64 places] w fun e w'=>e=.returned (.bool (AO i places))∧Below w.heap.size w w':=by
 cases i with
 |mk op d s t u a k q =>
  by_cases hn:Aj op=[]
  ·have e:AO ⟨op,d,s,t,u,a,k,q⟩ places=false:=by unfold AO;rw[if_pos hn]
   rw[e];exact JT op d s t u a k q places w hn
  have hfalse:¬(In.mk op d s t u a k q).M1→AO ⟨op,d,s,t,u,a,k,q⟩ places=false:=fun h=>by
   cases hr:AO ⟨op,d,s,t,u,a,k,q⟩ places with
   |false=>rfl
   |true=>exact absurd (Pf hr) h
  by_cases hd:0≤d∧d≤7;case neg=>rw[hfalse (fun x=>hd x.d)];exact Ll op d s t u a k q places w hn hd
  by_cases hs:0≤s∧s≤7;case neg=>rw[hfalse (fun x=>hs x.s)];exact Lm op d s t u a k q places w hn hd hs
  by_cases ht:0≤t∧t≤7;case neg=>rw[hfalse (fun x=>ht x.t)];exact Ln op d s t u a k q places w hn hd hs ht
  by_cases hu:0≤u∧u≤7;case neg=>rw[hfalse (fun x=>hu x.u)];exact Lo op d s t u a k q places w hn hd hs ht hu
  by_cases ha:0≤a∧a≤7;case neg=>rw[hfalse (fun x=>ha x.a)];exact Lp op d s t u a k q places w hn hd hs ht hu ha
  by_cases h1:op=1;case pos=>subst h1;exact PW d s t u a k q places w hd hs ht hu ha hwk
  by_cases h2:op=2;case pos=>subst h2;exact PX d s t u a k q places w hd hs ht hu ha hwk
  by_cases h3:op=3;case pos=>subst h3;exact PY d s t u a k q places w hd hs ht hu ha hwk
  by_cases h4:op=4;case pos=>subst h4;exact PZ d s t u a k q places w hd hs ht hu ha hwk
  by_cases h5:op=5;case pos=>subst h5;exact Qa d s t u a k q places w hd hs ht hu ha hwk
  by_cases h6:op=6;case pos=>subst h6;exact Qb d s t u a k q places w hd hs ht hu ha hwk
  by_cases h7:op=7;case pos=>subst h7;exact Qc d s t u a k q places w hd hs ht hu ha hwk
  by_cases h8:op=8;case pos=>subst h8;exact P0 d s t u a k q places w hd hs ht hu ha hwk
  by_cases h9:op=9;case pos=>subst h9;exact P3 d s t u a k q places w hd hs ht hu ha hwk
  by_cases h10:op=10;case pos=>subst h10;exact NX d s t u a k q places w hd hs ht hu ha hwk
  by_cases h11:op=11;case pos=>subst h11;exact NY d s t u a k q places w hd hs ht hu ha hwk
  by_cases h12:op=12;case pos=>subst h12;exact NZ d s t u a k q places w hd hs ht hu ha hwk
  by_cases h13:op=13;case pos=>subst h13;exact Oc d s t u a k q places w hd hs ht hu ha hwk
  by_cases h16:op=16;case pos=>subst h16;exact OT d s t u a k q places w hd hs ht hu ha hwk
  by_cases h17:op=17;case pos=>subst h17;exact OU d s t u a k q places w hd hs ht hu ha hwk
  by_cases h18:op=18;case pos=>subst h18;exact OV d s t u a k q places w hd hs ht hu ha hwk
  by_cases h19:op=19;case pos=>subst h19;exact OL d s t u a k q places w hd hs ht hu ha hwk
  by_cases h20:op=20;case pos=>subst h20;exact OW d s t u a k q places w hd hs ht hu ha hwk
  by_cases h21:op=21;case pos=>subst h21;exact OM d s t u a k q places w hd hs ht hu ha hwk
  by_cases h22:op=22;case pos=>subst h22;exact Od d s t u a k q places w hd hs ht hu ha hwk
  by_cases h23:op=23;case pos=>subst h23;exact Oe d s t u a k q places w hd hs ht hu ha hwk
  exfalso;apply hn;unfold Aj;repeat (first |rw[if_neg (by assumption)] |rfl)
structure Vo (pg:Pg):Prop where
 l0:0<pg.l.length
 l1:pg.l.length≤64
 a0:0≤pg.lock
 a1:pg.lock<pg.l.length
 b0:0≤pg.unlock
 b1:pg.unlock<pg.l.length
 wk:∀ i∈pg.l,i.wk
 ok:∀ i∈pg.l,AO i pg.l.length=true
theorem NK(W:World)(vl:Value)(pg:Pg)(hl:Cj W vl pg.l.length (Bu pg.l))(hp:Vo pg) :
  Calls Tryz.prog 43 #[.agg #[vl,.int .i64 pg.lock,.int .i64 pg.unlock]] W fun e W'=>e=.returned (.bool true)∧Below W.heap.size W W':=by
 obtain⟨gl,cl,rfl,hc0⟩:=hl.cells hp.l0;obtain⟨m,hm⟩:∃ m,pg.l.length=m:=⟨_,rfl⟩
 obtain⟨lk,hlk⟩:∃ m,pg.lock=m:=⟨_,rfl⟩
 obtain⟨ul,hul⟩:∃ m,pg.unlock=m:=⟨_,rfl⟩
 have m0:=hp.l0;have m1:=hp.l1;have a0:=hp.a0;have a1:=hp.a1;have b0:=hp.b0;have b1:=hp.b1;rw[hm]at m0 m1 a1 b1 ⊢;rw[hlk]at a0 a1 ⊢;rw[hul]at b0 b1 ⊢;have i1:¬(m:Int)<1:=by omega
 have i2:¬(64:Int)<(m:Int):=by omega
 have i3:¬lk<0:=by omega
 have i4:¬ul<0:=by omega
 have i5:¬(m:Int)≤lk:=by omega
 have i6:¬(m:Int)≤ul:=by omega
 clear a0 a1 b0 b1 hlk hul;have hb0:=Az (Bw W (.cells #[.slice (some ⟨gl,0,none⟩) m cl,.int .i64 lk,.int .i64 ul] 26));replace hc0:=Az hc0;replace hm:=Az hm;replace hp:=Az hp;clear hl;go_enter Tryz.func43,Tryz.ntmps43;go_wp2_with fail
 go_loopw [40] (fun v40 wr=>∃ (k:Nat),v40=.int .i64 (k:Int)∧k≤m∧Af (Below W.heap.size W wr)) (fun v40 _=>m-(intOf v40).toNat)
 case atStart=>exact⟨0,rfl,Nat.zero_le _,hb0⟩
 case round =>
  obtain⟨k,rfl,hk,hB⟩:=hrel;clear hb0 i1 i2 i3 i4 i5 i6;by_cases hlt:k<m
  ·have hkx:k<pg.l.length:=by rw[hm.out];exact hlt
   have hmem:pg.l.getD k In.zero∈pg.l:=by rw[List.getD_eq_getElem?_getD,List.getElem?_eq_getElem hkx];exact List.getElem_mem _
   have hwk:=hp.out.wk _ hmem;have hok:=hp.out.ok _ hmem;rw[hm.out]at hok;obtain⟨⟨op,d,s,t,u,a,kk,q⟩,hi⟩:∃ i,pg.l.getD k In.zero=i:=⟨_,rfl⟩
   rw[hi]at hwk hok;obtain⟨a0,a1,a2,a3,a4,a5,a6,a7⟩:=Fx (fun j u hj=>Ck hB.out (hc0.out j u hj)) hkx hi;have k0:(0:Int)≤(k:Int):=by omega
   have k1:(k:Int)<(m:Int):=by omega
   have kw:IntKind.i64.wrap ((k:Int)+1)=(k:Int)+1:=by rw[IntKind.wrap_i64];omega
   have R6:=fun W=>Hc ⟨op,d,s,t,u,a,kk,q⟩ (m:Int) hwk W
   rw[hok]at R6;dsimp only[In.v]at R6;replace R6:=Az R6;have hE:=Az (hB.out.trans ((Bw wr (.cells #[.int .i64 op,.int .i64 d,.int .i64 s,.int .i64 t,.int .i64 u,.int .i64 a,.int .u32 kk,.int .i64 q] 90)).mono hB.out.size));clear hi hkx hmem hwk hok hB;go_wp2_with fail
   refine(R6.out _).mono ?_;rintro e w5 ⟨rfl,hb5⟩;replace hE:=Az (hE.out.trans (hb5.mono hE.out.size));clear hb5 R6 a0 a1 a2 a3 a4 a5 a6 a7;go_wp2;go_roundw
   case rel=>exact⟨k+1,by go_num,hlt,hE⟩
   case measure=>simp[intOf];omega
  ·obtain rfl:k=m:=by omega
   have n1:¬(k:Int)<(k:Int):=by omega
   go_wp2;go_ret;exact⟨rfl,hB.out⟩
theorem BJ(W:World)(vl vs vi vr:Value)(pg:Pg)(ss is rs:List Nat)(each n:Nat)(hl:Cj W vl pg.l.length (Bu pg.l))(hs:Cj W vs ss.length (ss.map fun s:Nat=>Value.int .i64 (s:Int)))
  (hi:Cj W vi is.length (is.map fun v:Nat=>Value.int .u32 v))(hr:Cj W vr rs.length (rs.map fun v:Nat=>Value.int .u32 v))(h8:ss.length≤8)(hle:∀ s∈ss,s≤4096)(DP:ss.sum≤8192)
  (h1:1≤n)(h2:n≤64)(he:each≤8)(JW:ss.sum=is.length)(JJ:rs.length=n)(hp:Vo pg) :
  Calls Tryz.prog 21 #[.agg #[vl,.int .i64 pg.lock,.int .i64 pg.unlock,vs,vi,.int .i64 (each:Int),vr],.int .i64 (n:Int)] W fun e W'=>e=.returned (.bool true)∧Below W.heap.size W W':=by
 have hb0:=Bw W (.cells #[vl,.int .i64 pg.lock,.int .i64 pg.unlock,vs,vi,.int .i64 (each:Int),vr] 30);have hC:=Az (Jv _ vs ss (hs.keep hb0) h8 hle DP);have hN:=Bv W (.cells #[vl,.int .i64 pg.lock,.int .i64 pg.unlock,vs,vi,.int .i64 (each:Int),vr] 30);have hR:=Az (fun W1 (hb:Below W.heap.size W W1)=>NK W1 vl pg (hl.keep hb) hp);obtain⟨Ai,ci,rfl⟩:=hi.slice;obtain⟨Ar,cr,rfl⟩:=hr.slice;obtain⟨As,cs,rfl⟩:=hs.slice;obtain⟨Al,cl,rfl⟩:=hl.slice;obtain⟨W1,hW1⟩:∃ X,W.alloc (.cells #[.slice Al pg.l.length cl,.int .i64 pg.lock,.int .i64 pg.unlock,.slice As ss.length cs,.slice Ai is.length ci,.int .i64 (each:Int),.slice Ar rs.length cr] 30)=X:=⟨_,rfl⟩
 rw[hW1]at hb0 hC hN;have hml:(AG ss).length=is.length:=by unfold AG;rw[Hp];exact JW
 obtain⟨cells,hcells⟩:∃ x,AG ss=x:=⟨_,rfl⟩
 rw[hcells]at hC hml;rw[JJ]at hW1 hN;generalize is.length=mi at *;rw[JJ];have n3:W1.cell? ⟨W.heap.size,3,none⟩=some (.slice As ss.length cs):=(Bc hN 3).trans rfl;have n0:(1:Int)≤(n:Int):=by omega
 have n1:(n:Int)≤64:=by omega
 have e0:(0:Int)≤(each:Int):=by omega
 have e1:(each:Int)≤8:=by omega
 generalize hlg:pg.l.length=ml at *;generalize ss.length=ms at *;generalize hlk:pg.lock=lk at *;generalize hul:pg.unlock=ul at *;replace hb0:=Az hb0;replace hN:=Az hN;replace hml:=Az hml;clear hl hs hi hr h8 hle DP JW JJ hp hcells he h1 h2 hlg hlk hul;go_enter Tryz.func21,Tryz.ntmps21;go_wp2_with fail
 try rw[hW1]
 clear hW1;refine hC.out.mono ?_;rintro e w2 ⟨vc,rfl,hcl,hb2⟩;replace hN:=Az (Bk hb2 hN.out);obtain⟨Ac,cc,rfl⟩:=J8 hcl;rw[hml.out];replace hb0:=Az (hb0.out.trans (hb2.mono hb0.out.size));clear hC hb2 n3 hml hcl;have c0:w2.cell? ⟨W.heap.size,0,none⟩=some (.slice Al ml cl):=(Bc hN.out 0).trans rfl;have c1:w2.cell? ⟨W.heap.size,1,none⟩=some (.int .i64 lk):=(Bc hN.out 1).trans rfl;have c2:w2.cell? ⟨W.heap.size,2,none⟩=some (.int .i64 ul):=(Bc hN.out 2).trans rfl;have c4:w2.cell? ⟨W.heap.size,4,none⟩=some (.slice Ai mi ci):=(Bc hN.out 4).trans rfl;have c5:w2.cell? ⟨W.heap.size,5,none⟩=some (.int .i64 (each:Int)):=(Bc hN.out 5).trans rfl;have c6:w2.cell? ⟨W.heap.size,6,none⟩=some (.slice Ar n cr):=(Bc hN.out 6).trans rfl;clear hN;go_wp2_with fail
 refine(hR.out _ hb0.out).mono ?_;rintro e w3 ⟨rfl,hb3⟩;replace hb0:=Az (hb0.out.trans (hb3.mono hb0.out.size));clear hR hb3 c0 c1 c2 c4 c5 c6;go_wp2;go_ret;exact⟨rfl,hb0.out⟩
theorem Cr.Er{B:Nat}{Ts:List TypeId}{M:Nat→Prop}{w w':World}(h:Cr B Ts (fun _=>False) w w'):Cr B Ts M w w' :=
 ⟨h.os,h.tape,h.output,h.size,fun k hk hc=>h.block k hk (hc.imp id fun h2=>⟨fun f=>f,h2.2⟩)⟩
theorem Cr.Z3{B:Nat}{Ts:List TypeId}{M:Nat→Prop}{a w:World}(h:Cr B Ts M a w){p:Addr}(hM:M p.block)(hB:B≤p.block)(v:Value):Cr B Ts M a (w.setCell p v) :=
 h.trans ⟨rfl,rfl,rfl,by simp[World.setCell],fun k hk hc=>Below.heap_setCell _ _ _ _ fun e=>by
  subst e;rcases hc with hc |⟨hc,_⟩
  ·omega
  ·exact hc hM⟩
def KS(vd:Value)(k:Nat):Prop:=vd.ownBlock=some k
section
variable {w W W1:World} {pr px:Nat} {vl vc vw vr vd ve:Value} {pl:Option Addr} {r:AR}
theorem CZ.keep(h:CZ w W pr px vl vc vw vr pl vd ve r)(hb:Below W.heap.size W W1):CZ w W1 pr px vl vc vw vr pl vd ve r :=
 ⟨h.x.keep hb,h.IH,Bk hb h.br,Om h.act (fun k hk=>hb.block k (Ol h.act k hk)),Om h.l (fun k hk=>hb.block k (Ol h.l k hk))⟩
theorem CZ.Je{g n c t v:Nat}(h:CZ w W pr px vl vc vw vr pl (.slice (some ⟨g,0,none⟩) n c) ve r)(ht:t<r.act.length):∀ W',W'=W.setCell ⟨g,t,none⟩ (.int .i64 v) →
  CZ w W' pr px vl vc vw vr pl (.slice (some ⟨g,0,none⟩) n c) ve {r with act:=r.act.set t v}∧Cr w.heap.size [3] (fun _=>False) W W'∧Cr w.heap.size [] (KS (.slice (some ⟨g,0,none⟩) n c)) W W':=by
 rintro W' rfl;have ha:=h.act;unfold Ce at ha;obtain⟨g',c',hv,_,hg,⟨cs,hcs,_⟩,_⟩:=CJ ha (by omega);have e1:g=g':=by injection hv with h1 h2 h3;injection h1 with h1;injection h1
 have e2:n=r.act.length:=by injection hv
 subst e1;subst e2;have F:Cr w.heap.size [3] (fun _=>False) W (W.setCell ⟨g,t,none⟩ (.int .i64 v)):=(Cr.refl _ _ _ W).set (p:=⟨g,t,none⟩) hcs (by simp) hg _;have hp:=DD ha t (by omega) (.int .i64 v);refine⟨⟨h.x.frame F (by decide) (by decide) (by decide) (by decide),h.IH,F.G8 h.br (by decide) (fun f=>f),?_,F.own h.l (by decide) (fun _ _ f=>f)⟩,F,Cr.Z3 (M:=KS (.slice (some ⟨g,0,none⟩) r.act.length c)) (Cr.refl _ _ _ W) (p:=⟨g,t,none⟩) (show Value.ownBlock _=_ from rfl) hg _⟩;unfold Ce;simp only[List.length_set,List.map_set];exact hp
theorem CZ.X9(h:CZ w W pr px vl vc vw vr pl vd ve r):∀ W',W'=W.setCell ⟨pr,3,none⟩ (.int .i64 1) →
  CZ w W' pr px vl vc vw vr pl vd ve {r with bad:=true}∧Cr w.heap.size [75] (fun _=>False) W W':=by
 rintro W' rfl;have F:Cr w.heap.size [75] (fun _=>False) W (W.setCell ⟨pr,3,none⟩ (.int .i64 1)):=(Cr.refl _ _ _ W).set (p:=⟨pr,3,none⟩) h.br (by simp) h.IH _;exact⟨⟨h.x.frame F (by decide) (by decide) (by decide) (by decide),h.IH,Bs h.br 3 (.int .i64 1),F.own h.act (by decide) (fun _ _ f=>f),F.own h.l (by decide) (fun _ _ f=>f)⟩,F⟩
end
theorem Z4(k:Nat)(hk:k<5)(W:World):(Instr.index 134 (.agg #[.int .i64 0,.int .i64 2,.int .i64 3,.int .i64 4,.int .i64 9]) (.int .i64 (k:Int))).run Tryz.prog W=.ok (.int .i64 (Gz k:Int)) W:=by
 match k,hk with
 |0,_=>simp[Instr.index,Sem.run_bind,asIntOf,go_sem];rfl
 |1,_=>simp[Instr.index,Sem.run_bind,asIntOf,go_sem];rfl
 |2,_=>simp[Instr.index,Sem.run_bind,asIntOf,go_sem];rfl
 |3,_=>simp[Instr.index,Sem.run_bind,asIntOf,go_sem];rfl
 |4,_=>simp[Instr.index,Sem.run_bind,asIntOf,go_sem];rfl
def HW:List TypeId:=[75,83]
def Y8(w W:World)(pr px:Nat)(vl vc vw vr:Value)(pl:Option Addr)(vd:Value)(r:AR)(e:Ending)(W':World):Prop :=
 e=.returned (.tuple #[])∧∃ ve',CZ w W' pr px vl vc vw vr pl vd ve' r∧Cr w.heap.size HW (KS vd) W W'
theorem Gm(w W:World)(pr px:Nat)(vl vc vw vr:Value)(pl:Option Addr)(vd ve vm:Value)(r:AR)(t:Nat)(o:Ek)(h:CZ w W pr px vl vc vw vr pl vd ve r)(ht:t<r.act.length)(ht2:r.act.length≤64)
  (hm:Bj W w.heap.size vm o.marks)(hmk:∀ k∈o.marks,0≤k∧k<5)(hml:o.marks.length≤300)(hl:r.l.length+o.marks.length≤90000000) :
  Calls Tryz.prog 68 #[.pointer (some ⟨pr,0,none⟩),.int .i64 t,.agg #[vm,.int .i64 o.done,.int .i64 o.addr,.int .i64 (o.wrote:Int),.int .i64 (o.stay:Int),.int .i64 o.e]] W (Y8 w W pr px vl vc vw vr pl vd (r.EC t o)):=by
 obtain⟨A,c,rfl⟩:=hm.slice;obtain⟨m,hmm⟩:∃ m,o.marks.length=m:=⟨_,rfl⟩
 rw[hmm]at hm hml hl ⊢;obtain⟨W1,hW1⟩:∃ X,W.alloc (.cells #[.slice A m c,.int .i64 o.done,.int .i64 o.addr,.int .i64 (o.wrote:Int),.int .i64 (o.stay:Int),.int .i64 o.e] 113)=X:=⟨_,rfl⟩
 have hb1:Below W.heap.size W W1:=by rw[←hW1];exact Bw W _
 have b5:W1.heap[W.heap.size]?=some (.cells #[.slice A m c,.int .i64 o.done,.int .i64 o.addr,.int .i64 (o.wrote:Int),.int .i64 (o.stay:Int),.int .i64 o.e] 113 (0,0)):=by rw[←hW1];exact Bv W _
 have hR1:=h.keep hb1;have hm1:Bj W1 w.heap.size (.slice A m c) o.marks:=hm.keep hb1;have q0:W1.cell? ⟨W.heap.size,0,none⟩=some (.slice A m c):=(Bc b5 0).trans rfl;have FW:Cr w.heap.size HW (fun _=>False) W W1:=Cr.CF hb1;obtain⟨fin,hfin⟩:∃ x,r.EC t o=x:=⟨_,rfl⟩
 rw[hfin];replace hfin:=Az hfin;replace h:=Az h;replace hR1:=Az hR1;replace hm1:=Az hm1;replace b5:=Az b5;replace FW:=Az FW;replace hmm:=Az hmm;go_enter Tryz.func68,Tryz.ntmps68;go_wp2_with fail
 try rw[hW1]
 clear hW1;go_loopw [7,11] (fun v7 v11 wr=>∃ (n:Nat) (ve':Value),v11=.int .i64 (n:Int)∧n≤m∧Af (CZ w wr pr px vl vc vw vr pl vd ve' {r with l:=r.l++(o.marks.take n).map (fun k=>(Gz k,t))})∧Af (Cr w.heap.size [75,83] (fun _=>False) W1 wr)) (fun _ v11 _=>m-(intOf v11).toNat)
 case atStart=>exact⟨0,ve,rfl,Nat.zero_le _,⟨by simpa using hR1.out⟩,⟨Cr.refl _ _ _ _⟩⟩
 case round =>
  obtain⟨n,ve',rfl,hn,hR,hF⟩:=hrel;by_cases hlt:n<m
  ·have hnm:n<o.marks.length:=by rw[hmm.out];exact hlt
   obtain⟨g,c',hv,_,hcell⟩:=Bj.cell (hF.out.own hm1.out (by decide) (fun _ _ f=>f)) (by omega);have hcn:=hcell n hnm;have hA:A=some ⟨g,0,none⟩:=by injection hv
   subst hA;have hkm:=hmk (o.marks.getD n 0) (by rw[List.getD_eq_getElem?_getD,List.getElem?_eq_getElem hnm];exact List.getElem_mem _);have htake:(o.marks.take (n+1)).map (fun k=>(Gz k,t))=(o.marks.take n).map (fun k=>(Gz k,t))++[(Gz (o.marks.getD n 0),t)]:=by
    rw[List.take_succ_eq_append_getElem hnm,List.map_append,List.getD_eq_getElem?_getD,List.getElem?_eq_getElem hnm];rfl
   generalize o.marks.getD n 0=k at *;have n0:(0:Int)≤(n:Int):=by omega
   have n1:(n:Int)<(m:Int):=by omega
   have nw:IntKind.i64.wrap ((n:Int)+1)=(n:Int)+1:=by rw[IntKind.wrap_i64];omega
   have hent:=fun kk=>Fp w wr pr px vl vc vw vr pl vd ve' _ kk t hR.out (by simp;omega)
   replace hent:=Az hent;replace htake:=Az htake;clear hcell hv;obtain⟨kn,rfl⟩:∃ y:Nat,k=y:=⟨k.toNat,by omega⟩
   have hix:=fun W=>Z4 kn (by omega) W
   go_wp2_with fail
   refine(hent.out _).mono ?_;rintro e w2 ⟨rfl,ve2,hR2,hF2⟩;rw[List.append_assoc]at hR2;go_wp2;go_roundw
   case rel=>exact⟨n+1,ve2,by go_num,hlt,⟨by rw[htake.out];exact hR2⟩,⟨hF.out.trans hF2⟩⟩
   case measure=>simp[intOf];omega
  ·obtain rfl:n=m:=by omega
   have n1:¬(n:Int)<(n:Int):=by omega
   have hR2:=hR.out;rw[←hmm.out,List.take_length]at hR2;have b5':=hF.out.G8 b5.out (by decide) (fun f=>f);have e5:wr.cell? ⟨W.heap.size,5,none⟩=some (.int .i64 o.e):=(Bc b5' 5).trans rfl;have e1:wr.cell? ⟨W.heap.size,1,none⟩=some (.int .i64 o.done):=(Bc b5' 1).trans rfl;have hact:=hR2.act;unfold Ce at hact;obtain⟨gd,cd,hvd,_,hgd,⟨cs,hcs,_⟩,hcell⟩:=CJ hact (show 0<r.act.length by omega);subst hvd;obtain⟨nd,hnd⟩:∃ y,r.act.length=y:=⟨_,rfl⟩
   have c1:wr.cell? ⟨pr,1,none⟩=some (.slice (some ⟨gd,0,none⟩) nd cd):=by rw[←hnd];exact(Bc hR2.br 1).trans rfl
   obtain⟨av,hav⟩:∃ y,r.act.getD t 0=y:=⟨_,rfl⟩
   have ca:wr.cell? ⟨gd,t,none⟩=some (.int .i64 (av:Int)):=hcell t _ (by rw[←hav];simp[List.getD_eq_getElem?_getD,List.getElem?_eq_getElem ht]);have t0:(0:Int)≤(t:Int):=by omega
   have t1:(t:Int)<(nd:Int):=by omega
   have hf:=hfin.out;unfold AR.EC at hf;rw[hav]at hf;obtain⟨bm,hbm⟩:∃ b,LX av o=b:=⟨_,rfl⟩
   rw[hbm]at hf;clear hfin hcell hact b5';replace hf:=Az hf;replace hR2:=Az hR2;go_upto_region 6 with fail
   go_cut [43] from 22 to 22 (fun v43 wx=>v43=.bool bm∧wx=wr.drew)
   case first =>
    unfold LX at hbm;by_cases he:o.e=0
    ·have x1:(o.e != 0)=false:=by simp[he]
     by_cases hd:o.done≥0
     ·have x2:((av:Int)==3)=decide (av=3):=by
       by_cases h3:av=3
       ·subst h3;rfl
       ·rw[decide_eq_false h3];exact Bq (by omega)
      have x3:(o.done==2)=decide (o.done=2):=by
       by_cases h3:o.done=2
       ·rw[h3];rfl
       ·rw[decide_eq_false h3];exact Bq h3
      obtain⟨y2,hy2⟩:∃ y,decide (av=3)=y:=⟨_,rfl⟩
      obtain⟨y3,hy3⟩:∃ y,decide (o.done=2)=y:=⟨_,rfl⟩
      rw[hy2]at x2 hbm;rw[hy3]at x3 hbm;rw[decide_eq_false (fun h=>h he),decide_eq_true hd,Bool.false_or,Bool.true_and]at hbm;clear he;subst hbm;go_region
      go_wp2_with fail
      go_meet
      exact⟨rfl,rfl⟩
     ·rw[decide_eq_false (fun h=>h he),decide_eq_false hd]at hbm;have hd':o.done<0:=by omega
      clear he;subst hbm;go_region
      go_wp2_with fail
      go_meet
      exact⟨rfl,rfl⟩
    ·have x1:(o.e != 0)=true:=bne_iff_ne.2 he;rw[decide_eq_true he,Bool.true_or]at hbm;subst hbm;go_region
     go_wp2_with fail
     go_meet
     exact⟨rfl,rfl⟩
   case rest =>
    obtain⟨rfl,rfl⟩:=hcut;clear e5;have hRd:=hR2.out.keep (Bd (Below.refl _ _));have hFd:=((hF.out.then (Bd (Below.refl _ _))).mono (Ts':=HW) (by simp[HW]))
    replace hFd:=Az hFd;cases bm with
    |true =>
     have c3:wr.cell? ⟨pr,3,none⟩=some (.int .i64 (Tj r.bad)):=(Bc hR2.out.br 3).trans rfl;have f3:=Bf hR2.out.br 3;replace hRd:=Az hRd;go_wp2;obtain⟨hR5,hF5⟩:=hR2.out.X9 _ rfl;refine bodyPost_ret (fn:=Tryz.f68) (v:=.tuple #[]) (results_none rfl _ _ _) rfl ⟨rfl,ve',?_,(FW.out.Er.trans ((Cr.Er (hF.out.mono (Ts':=HW) (by simp[HW]))).trans (Cr.Er (hF5.mono (by simp[HW]))))).drew⟩;rw[←hf.out];simp only[if_true];rw[←hnd];exact hR5.keep (Bd (Below.refl _ _))
    |false =>
     have hent:=fun kk=>Fp w wr.drew pr px vl vc vw vr pl _ ve' _ kk t hRd (by simp only[List.length_append,List.length_map];have:=hmm.out;omega)
     have hR3:=hRd;replace hent:=Az hent;clear hRd;replace hf:=hf.out;rw[if_neg (by decide)]at hf;by_cases hd0:o.done=0
     ·rw[hd0]at hf;replace hf:=Az hf;replace hR3:=Az hR3;have x0:(o.done==0)=true:=by rw[hd0];rfl
      have x1:(o.done==1)=false:=by rw[hd0];rfl
      have x2:(o.done==2)=false:=by rw[hd0];rfl
      have x3:(o.done==3)=false:=by rw[hd0];rfl
      clear hd0;go_wp2_with fail
      refine(hent.out 6).mono ?_;rintro e w2 ⟨rfl,ve2,hR4,hF4⟩;have hact4:=hR4.act;unfold Ce at hact4;obtain⟨g4,c4,hv4,_,_,⟨cs4,hcs4,_⟩,hcell4⟩:=CJ hact4 (show 0<r.act.length by omega);have eg:gd=g4:=by injection hv4 with h1 h2 h3;injection h1 with h1;injection h1
      rw[←eg]at hcs4 hcell4;have c14:w2.cell? ⟨pr,1,none⟩=some (.slice (some ⟨gd,0,none⟩) nd cd):=by rw[←hnd];exact(Bc hR4.br 1).trans rfl
      have ca4:w2.cell? ⟨gd,t,none⟩=some (.int .i64 (av:Int)):=hcell4 t _ (by rw[←hav];simp[List.getD_eq_getElem?_getD,List.getElem?_eq_getElem ht]);have fa4:=Bf hcs4 t;clear hcell4 hv4 hcs4 eg hact4 x0 x1 x2 x3;replace hR4:=Az hR4;go_wp2;obtain⟨hR5,_,hF5⟩:=hR4.out.Je (v:=0) ht _ rfl;refine bodyPost_end (fn:=Tryz.f68) (v:=.tuple #[]) (results_none rfl _ _ _) rfl ⟨rfl,ve2,?_,FW.out.Er.trans ((hFd.out.Er.trans (Cr.Er (hF4.mono (by simp[HW])))).trans (hF5.mono (by simp)))⟩;rw[←hf.out,←hnd];exact hR5
     ·by_cases hd1:o.done=1
      ·rw[hd1]at hf;replace hf:=Az hf;replace hR3:=Az hR3;have x0:(o.done==0)=false:=by rw[hd1];rfl
       have x1:(o.done==1)=true:=by rw[hd1];rfl
       have x2:(o.done==2)=false:=by rw[hd1];rfl
       have x3:(o.done==3)=false:=by rw[hd1];rfl
       clear hd1;go_wp2_with fail
       refine(hent.out 5).mono ?_;rintro e w2 ⟨rfl,ve2,hR4,hF4⟩;have hact4:=hR4.act;unfold Ce at hact4;obtain⟨g4,c4,hv4,_,_,⟨cs4,hcs4,_⟩,hcell4⟩:=CJ hact4 (show 0<r.act.length by omega);have eg:gd=g4:=by injection hv4 with h1 h2 h3;injection h1 with h1;injection h1
       rw[←eg]at hcs4 hcell4;have c14:w2.cell? ⟨pr,1,none⟩=some (.slice (some ⟨gd,0,none⟩) nd cd):=by rw[←hnd];exact(Bc hR4.br 1).trans rfl
       have ca4:w2.cell? ⟨gd,t,none⟩=some (.int .i64 (av:Int)):=hcell4 t _ (by rw[←hav];simp[List.getD_eq_getElem?_getD,List.getElem?_eq_getElem ht]);have fa4:=Bf hcs4 t;clear hcell4 hv4 hcs4 eg hact4 x0 x1 x2 x3;replace hR4:=Az hR4;go_wp2;obtain⟨hR5,_,hF5⟩:=hR4.out.Je (v:=2) ht _ rfl;refine bodyPost_end (fn:=Tryz.f68) (v:=.tuple #[]) (results_none rfl _ _ _) rfl ⟨rfl,ve2,?_,FW.out.Er.trans ((hFd.out.Er.trans (Cr.Er (hF4.mono (by simp[HW])))).trans (hF5.mono (by simp)))⟩;rw[←hf.out,←hnd];exact hR5
      ·by_cases hd2:o.done=2
       ·rw[hd2]at hf;replace hf:=Az hf;replace hR3:=Az hR3;have x0:(o.done==0)=false:=by rw[hd2];rfl
        have x1:(o.done==1)=false:=by rw[hd2];rfl
        have x2:(o.done==2)=true:=by rw[hd2];rfl
        have x3:(o.done==3)=false:=by rw[hd2];rfl
        clear hd2;go_wp2_with fail
        refine(hent.out 10).mono ?_;rintro e w2 ⟨rfl,ve2,hR4,hF4⟩;have hact4:=hR4.act;unfold Ce at hact4;obtain⟨g4,c4,hv4,_,_,⟨cs4,hcs4,_⟩,hcell4⟩:=CJ hact4 (show 0<r.act.length by omega);have eg:gd=g4:=by injection hv4 with h1 h2 h3;injection h1 with h1;injection h1
        rw[←eg]at hcs4 hcell4;have c14:w2.cell? ⟨pr,1,none⟩=some (.slice (some ⟨gd,0,none⟩) nd cd):=by rw[←hnd];exact(Bc hR4.br 1).trans rfl
        have ca4:w2.cell? ⟨gd,t,none⟩=some (.int .i64 (av:Int)):=hcell4 t _ (by rw[←hav];simp[List.getD_eq_getElem?_getD,List.getElem?_eq_getElem ht]);have fa4:=Bf hcs4 t;clear hcell4 hv4 hcs4 eg hact4 x0 x1 x2 x3;replace hR4:=Az hR4;go_wp2;obtain⟨hR5,_,hF5⟩:=hR4.out.Je (v:=0) ht _ rfl;refine bodyPost_end (fn:=Tryz.f68) (v:=.tuple #[]) (results_none rfl _ _ _) rfl ⟨rfl,ve2,?_,FW.out.Er.trans ((hFd.out.Er.trans (Cr.Er (hF4.mono (by simp[HW])))).trans (hF5.mono (by simp)))⟩;rw[←hf.out,←hnd];exact hR5
       ·by_cases hd3:o.done=3
        ·rw[hd3]at hf;replace hf:=Az hf;replace hR3:=Az hR3;have x0:(o.done==0)=false:=by rw[hd3];rfl
         have x1:(o.done==1)=false:=by rw[hd3];rfl
         have x2:(o.done==2)=false:=by rw[hd3];rfl
         have x3:(o.done==3)=true:=by rw[hd3];rfl
         clear hd3;go_wp2_with fail
         refine(hent.out 7).mono ?_;rintro e w2 ⟨rfl,ve2,hR4,hF4⟩;have hact4:=hR4.act;unfold Ce at hact4;obtain⟨g4,c4,hv4,_,_,⟨cs4,hcs4,_⟩,hcell4⟩:=CJ hact4 (show 0<r.act.length by omega);have eg:gd=g4:=by injection hv4 with h1 h2 h3;injection h1 with h1;injection h1
         rw[←eg]at hcs4 hcell4;have c14:w2.cell? ⟨pr,1,none⟩=some (.slice (some ⟨gd,0,none⟩) nd cd):=by rw[←hnd];exact(Bc hR4.br 1).trans rfl
         have ca4:w2.cell? ⟨gd,t,none⟩=some (.int .i64 (av:Int)):=hcell4 t _ (by rw[←hav];simp[List.getD_eq_getElem?_getD,List.getElem?_eq_getElem ht]);have fa4:=Bf hcs4 t;clear hcell4 hv4 hcs4 eg hact4 x0 x1 x2 x3;replace hR4:=Az hR4;go_wp2;obtain⟨hR5,_,hF5⟩:=hR4.out.Je (v:=0) ht _ rfl;refine bodyPost_end (fn:=Tryz.f68) (v:=.tuple #[]) (results_none rfl _ _ _) rfl ⟨rfl,ve2,?_,FW.out.Er.trans ((hFd.out.Er.trans (Cr.Er (hF4.mono (by simp[HW])))).trans (hF5.mono (by simp)))⟩;rw[←hf.out,←hnd];exact hR5
        ·have x0:(o.done==0)=false:=Bq hd0;have x1:(o.done==1)=false:=Bq hd1;have x2:(o.done==2)=false:=Bq hd2;have x3:(o.done==3)=false:=Bq hd3;have he:Lc o.done=none:=by simp[Lc,hd0,hd1,hd2,hd3]
         rw[he]at hf;replace hf:=Az hf;replace hR3:=Az hR3;clear he;go_wp2;refine bodyPost_end (fn:=Tryz.f68) (v:=.tuple #[]) (results_none rfl _ _ _) rfl ⟨rfl,ve',?_,FW.out.Er.trans hFd.out.Er⟩;rw[←hf.out,←hnd];exact hR3.out
theorem CZ.exec{w W W':World}{pr px:Nat}{vl vc vw vr vd ve:Value}{pl:Option Addr}{r:AR}{x':AM}(h:CZ w W pr px vl vc vw vr pl vd ve r)(hx:Dm w W' px vl vc vw vr pl x')(F:Cr w.heap.size IZ (fun _=>False) W W') :
  CZ w W' pr px vl vc vw vr pl vd ve {r with x:=x'} :=
 ⟨hx,h.IH,F.G8 h.br (by decide) (fun f=>f),F.own h.act (by decide) (fun _ _ f=>f),F.own h.l (by decide) (fun _ _ f=>f)⟩
def L4(code:List In):Prop:=∀ i∈code,i.op=12→0≤i.k∧i.k<5
def Qf(ms:List Int)(n:Nat):Prop:=(∀ k∈ms,0≤k∧k<5)∧ms.length≤n
theorem HY(code:List In)(t:Nat)(hm:L4 code):∀ (n:Nat) (c:CoreM) (ms:List Int) (b:Nat),Qf ms b→Qf (runM code t n c ms).2.1 (b+n)
 |0,c,ms,b,h=>⟨h.1,Nat.le_trans h.2 (by omega)⟩
 |n+1,c,ms,b,h=>by
  have h':Qf ms (b+(n+1)):=⟨h.1,Nat.le_trans h.2 (by omega)⟩
  unfold runM;by_cases h1:c.pc<0∨c.pc≥code.length
  ·rw[if_pos h1];exact h'
  ·rw[if_neg h1];by_cases h2:(code.getD c.pc.toNat In.zero).op≥16
   ·rw[if_pos h2];exact h'
   ·rw[if_neg h2];by_cases h3:n=0
    ·rw[if_pos h3];exact h'
    ·rw[if_neg h3];by_cases h4:(code.getD c.pc.toNat In.zero).op=13
     ·rw[if_pos h4];exact h'
     ·rw[if_neg h4];have hp:c.pc.toNat<code.length:=by omega
      have hi:code.getD c.pc.toNat In.zero∈code:=by
       rw[List.getD_eq_getElem?_getD,List.getElem?_eq_getElem hp];exact List.getElem_mem _
      by_cases h5:(code.getD c.pc.toNat In.zero).op=12
      ·rw[if_pos h5];have:=HY code t hm n (G6 c (code.getD c.pc.toNat In.zero) t) (ms++[(code.getD c.pc.toNat In.zero).k]) (b+1) ⟨fun k hk=>by
        rcases List.mem_append.1 hk with hk |hk
        ·exact h.1 k hk
        ·rw[List.mem_singleton.1 hk];exact hm _ hi h5,by have:=h.2;simp;omega⟩
       exact⟨this.1,Nat.le_trans this.2 (by omega)⟩
      ·rw[if_neg h5];have:=HY code t hm n (G6 c (code.getD c.pc.toNat In.zero) t) ms b h;exact⟨this.1,Nat.le_trans this.2 (by omega)⟩
theorem go_marks(x:AM)(t:Nat)(c:CoreM)(a:Int)(wr:Nat)(hm:L4 x.pg.l):Qf (x.go t c a wr).2.marks 300:=by
 have:=HY x.pg.l t hm 257 c [] 0 ⟨by simp,by simp⟩;exact⟨this.1,Nat.le_trans this.2 (by omega)⟩
theorem Fl(x:AM)(t:Nat)(u:Bool)(hm:L4 x.pg.l):Qf (x.begin t u).2.marks 300:=go_marks x t _ _ _ hm
theorem H8(x:AM)(t:Nat)(late:Bool)(hm:L4 x.pg.l):Qf (x.step t late).2.marks 300:=by
 have h0:Qf [] 300:=⟨by simp,by simp⟩
 unfold AM.step;dsimp only;split
 ·exact h0
 split
 ·exact h0
 split
 ·exact go_marks _ t _ _ _ hm
 split
 ·split
  ·exact h0
  ·exact go_marks _ t _ _ _ hm
 split
 ·exact h0
 split
 ·exact h0
 ·rename_i r _ _
  refine go_marks _ t _ _ _ ?_;split<;>exact hm
end
end Go.Proofs.YtnmahobjmpdkdaaGreatDoor

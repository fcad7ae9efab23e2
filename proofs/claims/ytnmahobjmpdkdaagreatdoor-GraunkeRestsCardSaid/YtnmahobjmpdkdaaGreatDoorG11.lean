/- Parts: Wait, Words. -/
import Derived.Test.YtnmahobjmpdkdaaGreatDoorG02
import Derived.Test.YtnmahobjmpdkdaaGreatDoorG07
import Derived.Test.YtnmahobjmpdkdaaGreatDoorG05
import Derived.Test.YtnmahobjmpdkdaaGreatDoorG04
import Derived.Test.YtnmahobjmpdkdaaGreatDoorG10
import Derived.Deep.QuietTactic
import Derived.BigQuiet
import Derived.Deep.RegionHeld3
import Derived.Deep.DeepCutAuto
set_option linter.unusedVariables false
set_option linter.unusedSimpArgs false
set_option maxRecDepth 100000
set_option maxHeartbeats 40000000
namespace Go.Proofs.YtnmahobjmpdkdaaGreatDoor
section
open Go.RowKit Go.Proofs.YtnmahobjmpdkdaaGreatDoorW.PrintWords
def Dk(w:World)(v:Value)(ss:List (List UInt8)):Prop :=
 (ss=[]∧∃ A,v=.slice A 0 0)∨∃ g o,v=.slice (some ⟨g,o,none⟩) ss.length ss.length∧(∃ cs,w.heap[g]?=some (.cells cs 9 (0,0))∧∀ j,j<ss.length→cs[o+j]?=some (.string ⟨(ss.getD j []).toArray⟩))
theorem AK{w w1:World}{g:Nat}(h:w.grownBy w1 (some g))(o:Nat)(v:Value):w.grownBy (w1.setCell ⟨g,o,none⟩ v) (some g) :=
 ⟨h.os,h.tape,h.output,by rw[World.setCell];simp;exact h.size,fun i hi hne=>(Below.heap_setCell w1 ⟨g,o,none⟩ v i (fun e=>hne (by rw[e]))).trans (h.block i hi hne)⟩
theorem C0(w:World)(row:Option Nat):w.grownBy w row:=⟨rfl,rfl,rfl,Nl _,fun _ _ _=>rfl⟩
theorem Ch{w w1 w2:World}{row:Option Nat}(h:w.grownBy w1 row)(hb:Below w1.heap.size w1 w2):w.grownBy w2 row :=
 ⟨hb.os.trans h.os,hb.tape.trans h.tape,hb.output.trans h.output,Nat.le_trans h.size hb.size,fun i hi hne=>(hb.block i (Nat.lt_of_lt_of_le hi h.size)).trans (h.block i hi hne)⟩
theorem XB(gi g o:Nat)(r:In)(s0:List UInt8)(cs:Array Value)(w0 w:World)(he:Env w0)(hb0:Below w0.heap.size w0 w)(hgi:w0.heap.size≤gi)(hne:gi≠g)(hI:w.heap[gi]?=some (.cells r.cs 104 (0,0)))(hs:s0=[110,101])(hg:w.heap[g]?=some (.cells cs 9 (0,0)))(hcs:∀ j,j<[s0].length→cs[o+j]?=some (.string ⟨([s0].getD j []).toArray⟩)) :
  Calls Tryz.prog 115 #[.pointer (some ⟨gi,0,none⟩),.slice (some ⟨g,o,none⟩) 1 1] w fun e w' =>
   ∃ v,e=.returned v∧Dk w' v (Bu r [s0]).2∧w'.heap[gi]?=some (.cells (Bu r [s0]).1.cs 104 (0,0))∧w.grownBy w' (some gi):=by
 have c0:w.cell? ⟨g,o,none⟩=some (.string ⟨s0.toArray⟩):=(Bc hg o).trans (hcs 0 (by simp));have i6:w.cell? ⟨gi,6,none⟩=some (.int .u32 r.k):=(Bc hI 6).trans rfl;have i7:w.cell? ⟨gi,7,none⟩=some (.int .i64 r.q):=(Bc hI 7).trans rfl;have f6:=Bf hI 6;have f7:=Bf hI 7;have hne':g≠gi:=fun e=>hne e.symm
 have t0:(s0==[110,101])=true:=beq_iff_eq.2 hs;have hfin:Bu r [s0]=({r with q := -1,k:=1},[]):=by simp[Bu,hs]
 rw[hfin];clear hfin;replace hI:=Az hI;replace hg:=Az hg;replace hcs:=Az hcs;replace hs:=Az hs;go_enter Tryz.func115,Tryz.ntmps115;go_wp2;go_ret;exact⟨_,rfl,.inl ⟨rfl,_,rfl⟩,Bs (Bs (hI.out) 7 (.int .i64 (-1))) 6 (.int .u32 1),AK (AK (C0 w (some gi)) 7 _) 6 _⟩
theorem XC(gi g o:Nat)(r:In)(s0:List UInt8)(cs:Array Value)(w0 w:World)(he:Env w0)(hb0:Below w0.heap.size w0 w)(hgi:w0.heap.size≤gi)(hne:gi≠g)(hI:w.heap[gi]?=some (.cells r.cs 104 (0,0)))(hs:s0≠[110,101])(hg:w.heap[g]?=some (.cells cs 9 (0,0)))(hcs:∀ j,j<[s0].length→cs[o+j]?=some (.string ⟨([s0].getD j []).toArray⟩)) :
  Calls Tryz.prog 115 #[.pointer (some ⟨gi,0,none⟩),.slice (some ⟨g,o,none⟩) 1 1] w fun e w' =>
   ∃ v,e=.returned v∧Dk w' v (Bu r [s0]).2∧w'.heap[gi]?=some (.cells (Bu r [s0]).1.cs 104 (0,0))∧w.grownBy w' (some gi):=by
 have c0:w.cell? ⟨g,o,none⟩=some (.string ⟨s0.toArray⟩):=(Bc hg o).trans (hcs 0 (by simp));have i6:w.cell? ⟨gi,6,none⟩=some (.int .u32 r.k):=(Bc hI 6).trans rfl;have i7:w.cell? ⟨gi,7,none⟩=some (.int .i64 r.q):=(Bc hI 7).trans rfl;have f6:=Bf hI 6;have f7:=Bf hI 7;have hne':g≠gi:=fun e=>hne e.symm
 have t0:(s0==[110,101])=false:=Bq hs;have hfin:Bu r [s0]=({r with q := -1},[]):=by simp[Bu,hs]
 rw[hfin];clear hfin;replace hI:=Az hI;replace hg:=Az hg;replace hcs:=Az hcs;replace hs:=Az hs;go_enter Tryz.func115,Tryz.ntmps115;go_wp2;go_ret;exact⟨_,rfl,.inl ⟨rfl,_,rfl⟩,Bs (hI.out) 7 (.int .i64 (-1)),AK (C0 w (some gi)) 7 _⟩
theorem XD(gi g o:Nat)(r:In)(s0 s1:List UInt8)(cs:Array Value)(w0 w:World)(he:Env w0)(hb0:Below w0.heap.size w0 w)(hgi:w0.heap.size≤gi)(hne:gi≠g)(hI:w.heap[gi]?=some (.cells r.cs 104 (0,0)))(hs:s0=[110,101])(hg:w.heap[g]?=some (.cells cs 9 (0,0)))(hcs:∀ j,j<[s0,s1].length→cs[o+j]?=some (.string ⟨([s0,s1].getD j []).toArray⟩))(hl1:s1.length≤4294967280) :
  Calls Tryz.prog 115 #[.pointer (some ⟨gi,0,none⟩),.slice (some ⟨g,o,none⟩) 2 2] w fun e w' =>
   ∃ v,e=.returned v∧Dk w' v (Bu r [s0,s1]).2∧w'.heap[gi]?=some (.cells (Bu r [s0,s1]).1.cs 104 (0,0))∧w.grownBy w' (some gi):=by
 have c0:w.cell? ⟨g,o,none⟩=some (.string ⟨s0.toArray⟩):=(Bc hg o).trans (hcs 0 (by simp));have c1:w.cell? ⟨g,o+1,none⟩=some (.string ⟨s1.toArray⟩):=(Bc hg (o+1)).trans (hcs 1 (by simp));have i6:w.cell? ⟨gi,6,none⟩=some (.int .u32 r.k):=(Bc hI 6).trans rfl;have i7:w.cell? ⟨gi,7,none⟩=some (.int .i64 r.q):=(Bc hI 7).trans rfl;have f6:=Bf hI 6;have f7:=Bf hI 7;have hne':g≠gi:=fun e=>hne e.symm
 have t0:(s0==[110,101])=true:=beq_iff_eq.2 hs;have hfin:Bu r [s0,s1]=({r with q := -1,k:=1,t:=Co s1},[]):=by simp[Bu,hs]
 rw[hfin];clear hfin;replace hI:=Az hI;replace hg:=Az hg;replace hcs:=Az hcs;replace hs:=Az hs;go_enter Tryz.func115,Tryz.ntmps115;have hB1:=Az ((hb0.setCell (p:=⟨gi,7,none⟩) hgi (.int .i64 (-1))).setCell (p:=⟨gi,6,none⟩) hgi (.int .u32 1));go_wp2_with fail
 refine(BC s1 _ hl1 (he.below hB1.out)).mono ?_;rintro e w1 ⟨rfl,hb1⟩;have hI1:=Az (show w1.heap[gi]?=some (.cells (In.cs {r with q := -1,k:=1}) 104 (0,0)) from Bk hb1 (Bs (Bs (hI.out) 7 (.int .i64 (-1))) 6 (.int .u32 1)));have hg1:=Az (Bk hb1 (Ba (Ba (hg.out) hne' _) hne' _));have hr1:=Az (Ch (AK (AK (C0 w (some gi)) 7 _) 6 _) hb1);have i31:w1.cell? ⟨gi,3,none⟩=some (.int .i64 r.t):=(Bc hI1.out 3).trans rfl;have f31:=Bf hI1.out 3;go_wp2;go_ret;exact⟨_,rfl,.inl ⟨rfl,_,rfl⟩,Bs hI1.out 3 (.int .i64 (Co s1)),AK hr1.out 3 _⟩
theorem XE(gi g o:Nat)(r:In)(s0 s1:List UInt8)(cs:Array Value)(w0 w:World)(he:Env w0)(hb0:Below w0.heap.size w0 w)(hgi:w0.heap.size≤gi)(hne:gi≠g)(hI:w.heap[gi]?=some (.cells r.cs 104 (0,0)))(hs:s0≠[110,101])(hg:w.heap[g]?=some (.cells cs 9 (0,0)))(hcs:∀ j,j<[s0,s1].length→cs[o+j]?=some (.string ⟨([s0,s1].getD j []).toArray⟩))(hl1:s1.length≤4294967280) :
  Calls Tryz.prog 115 #[.pointer (some ⟨gi,0,none⟩),.slice (some ⟨g,o,none⟩) 2 2] w fun e w' =>
   ∃ v,e=.returned v∧Dk w' v (Bu r [s0,s1]).2∧w'.heap[gi]?=some (.cells (Bu r [s0,s1]).1.cs 104 (0,0))∧w.grownBy w' (some gi):=by
 have c0:w.cell? ⟨g,o,none⟩=some (.string ⟨s0.toArray⟩):=(Bc hg o).trans (hcs 0 (by simp));have c1:w.cell? ⟨g,o+1,none⟩=some (.string ⟨s1.toArray⟩):=(Bc hg (o+1)).trans (hcs 1 (by simp));have i6:w.cell? ⟨gi,6,none⟩=some (.int .u32 r.k):=(Bc hI 6).trans rfl;have i7:w.cell? ⟨gi,7,none⟩=some (.int .i64 r.q):=(Bc hI 7).trans rfl;have f6:=Bf hI 6;have f7:=Bf hI 7;have hne':g≠gi:=fun e=>hne e.symm
 have t0:(s0==[110,101])=false:=Bq hs;have hfin:Bu r [s0,s1]=({r with q := -1,t:=Co s1},[]):=by simp[Bu,hs]
 rw[hfin];clear hfin;replace hI:=Az hI;replace hg:=Az hg;replace hcs:=Az hcs;replace hs:=Az hs;go_enter Tryz.func115,Tryz.ntmps115;have hB1:=Az (hb0.setCell (p:=⟨gi,7,none⟩) hgi (.int .i64 (-1)));go_wp2_with fail
 refine(BC s1 _ hl1 (he.below hB1.out)).mono ?_;rintro e w1 ⟨rfl,hb1⟩;have hI1:=Az (show w1.heap[gi]?=some (.cells (In.cs {r with q := -1}) 104 (0,0)) from Bk hb1 (Bs (hI.out) 7 (.int .i64 (-1))));have hg1:=Az (Bk hb1 (Ba (hg.out) hne' _));have hr1:=Az (Ch (AK (C0 w (some gi)) 7 _) hb1);have i31:w1.cell? ⟨gi,3,none⟩=some (.int .i64 r.t):=(Bc hI1.out 3).trans rfl;have f31:=Bf hI1.out 3;go_wp2;go_ret;exact⟨_,rfl,.inl ⟨rfl,_,rfl⟩,Bs hI1.out 3 (.int .i64 (Co s1)),AK hr1.out 3 _⟩
theorem XF(gi g o:Nat)(r:In)(s0 s1 s2:List UInt8)(cs:Array Value)(w0 w:World)(he:Env w0)(hb0:Below w0.heap.size w0 w)(hgi:w0.heap.size≤gi)(hne:gi≠g)(hI:w.heap[gi]?=some (.cells r.cs 104 (0,0)))(hs:s0=[110,101])(hg:w.heap[g]?=some (.cells cs 9 (0,0)))(hcs:∀ j,j<[s0,s1,s2].length→cs[o+j]?=some (.string ⟨([s0,s1,s2].getD j []).toArray⟩))(hl1:s1.length≤4294967280) :
  Calls Tryz.prog 115 #[.pointer (some ⟨gi,0,none⟩),.slice (some ⟨g,o,none⟩) 3 3] w fun e w' =>
   ∃ v,e=.returned v∧Dk w' v (Bu r [s0,s1,s2]).2∧w'.heap[gi]?=some (.cells (Bu r [s0,s1,s2]).1.cs 104 (0,0))∧w.grownBy w' (some gi):=by
 have c0:w.cell? ⟨g,o,none⟩=some (.string ⟨s0.toArray⟩):=(Bc hg o).trans (hcs 0 (by simp));have c1:w.cell? ⟨g,o+1,none⟩=some (.string ⟨s1.toArray⟩):=(Bc hg (o+1)).trans (hcs 1 (by simp));have c2:w.cell? ⟨g,o+2,none⟩=some (.string ⟨s2.toArray⟩):=(Bc hg (o+2)).trans (hcs 2 (by simp));have i6:w.cell? ⟨gi,6,none⟩=some (.int .u32 r.k):=(Bc hI 6).trans rfl;have i7:w.cell? ⟨gi,7,none⟩=some (.int .i64 r.q):=(Bc hI 7).trans rfl;have f6:=Bf hI 6;have f7:=Bf hI 7;have hne':g≠gi:=fun e=>hne e.symm
 have t0:(s0==[110,101])=true:=beq_iff_eq.2 hs;have hfin:Bu r [s0,s1,s2]=({r with q := -1,k:=1,t:=Co s1},[s2]):=by simp[Bu,hs]
 rw[hfin];clear hfin;replace hI:=Az hI;replace hg:=Az hg;replace hcs:=Az hcs;replace hs:=Az hs;go_enter Tryz.func115,Tryz.ntmps115;have hB1:=Az ((hb0.setCell (p:=⟨gi,7,none⟩) hgi (.int .i64 (-1))).setCell (p:=⟨gi,6,none⟩) hgi (.int .u32 1));go_wp2_with fail
 refine(BC s1 _ hl1 (he.below hB1.out)).mono ?_;rintro e w1 ⟨rfl,hb1⟩;have hI1:=Az (show w1.heap[gi]?=some (.cells (In.cs {r with q := -1,k:=1}) 104 (0,0)) from Bk hb1 (Bs (Bs (hI.out) 7 (.int .i64 (-1))) 6 (.int .u32 1)));have hg1:=Az (Bk hb1 (Ba (Ba (hg.out) hne' _) hne' _));have hr1:=Az (Ch (AK (AK (C0 w (some gi)) 7 _) 6 _) hb1);have i31:w1.cell? ⟨gi,3,none⟩=some (.int .i64 r.t):=(Bc hI1.out 3).trans rfl;have f31:=Bf hI1.out 3;go_wp2;go_ret;exact⟨_,rfl,.inr ⟨g,o+2,rfl,_,Ba hg1.out hne' _,fun j hj=>by have:=hcs.out (2+j) (by simp at hj ⊢;omega);rw[←Nat.add_assoc]at this;simpa [Nat.add_comm 2 j]using this⟩,Bs hI1.out 3 (.int .i64 (Co s1)),AK hr1.out 3 _⟩
theorem XG(gi g o:Nat)(r:In)(s0 s1 s2:List UInt8)(cs:Array Value)(w0 w:World)(he:Env w0)(hb0:Below w0.heap.size w0 w)(hgi:w0.heap.size≤gi)(hne:gi≠g)(hI:w.heap[gi]?=some (.cells r.cs 104 (0,0)))(hs:s0≠[110,101])(hg:w.heap[g]?=some (.cells cs 9 (0,0)))(hcs:∀ j,j<[s0,s1,s2].length→cs[o+j]?=some (.string ⟨([s0,s1,s2].getD j []).toArray⟩))(hl1:s1.length≤4294967280) :
  Calls Tryz.prog 115 #[.pointer (some ⟨gi,0,none⟩),.slice (some ⟨g,o,none⟩) 3 3] w fun e w' =>
   ∃ v,e=.returned v∧Dk w' v (Bu r [s0,s1,s2]).2∧w'.heap[gi]?=some (.cells (Bu r [s0,s1,s2]).1.cs 104 (0,0))∧w.grownBy w' (some gi):=by
 have c0:w.cell? ⟨g,o,none⟩=some (.string ⟨s0.toArray⟩):=(Bc hg o).trans (hcs 0 (by simp));have c1:w.cell? ⟨g,o+1,none⟩=some (.string ⟨s1.toArray⟩):=(Bc hg (o+1)).trans (hcs 1 (by simp));have c2:w.cell? ⟨g,o+2,none⟩=some (.string ⟨s2.toArray⟩):=(Bc hg (o+2)).trans (hcs 2 (by simp));have i6:w.cell? ⟨gi,6,none⟩=some (.int .u32 r.k):=(Bc hI 6).trans rfl;have i7:w.cell? ⟨gi,7,none⟩=some (.int .i64 r.q):=(Bc hI 7).trans rfl;have f6:=Bf hI 6;have f7:=Bf hI 7;have hne':g≠gi:=fun e=>hne e.symm
 have t0:(s0==[110,101])=false:=Bq hs;have hfin:Bu r [s0,s1,s2]=({r with q := -1,t:=Co s1},[s2]):=by simp[Bu,hs]
 rw[hfin];clear hfin;replace hI:=Az hI;replace hg:=Az hg;replace hcs:=Az hcs;replace hs:=Az hs;go_enter Tryz.func115,Tryz.ntmps115;have hB1:=Az (hb0.setCell (p:=⟨gi,7,none⟩) hgi (.int .i64 (-1)));go_wp2_with fail
 refine(BC s1 _ hl1 (he.below hB1.out)).mono ?_;rintro e w1 ⟨rfl,hb1⟩;have hI1:=Az (show w1.heap[gi]?=some (.cells (In.cs {r with q := -1}) 104 (0,0)) from Bk hb1 (Bs (hI.out) 7 (.int .i64 (-1))));have hg1:=Az (Bk hb1 (Ba (hg.out) hne' _));have hr1:=Az (Ch (AK (C0 w (some gi)) 7 _) hb1);have i31:w1.cell? ⟨gi,3,none⟩=some (.int .i64 r.t):=(Bc hI1.out 3).trans rfl;have f31:=Bf hI1.out 3;go_wp2;go_ret;exact⟨_,rfl,.inr ⟨g,o+2,rfl,_,Ba hg1.out hne' _,fun j hj=>by have:=hcs.out (2+j) (by simp at hj ⊢;omega);rw[←Nat.add_assoc]at this;simpa [Nat.add_comm 2 j]using this⟩,Bs hI1.out 3 (.int .i64 (Co s1)),AK hr1.out 3 _⟩
theorem VO(gi g o:Nat)(r:In)(s0 s1 s2 s3:List UInt8)(cs:Array Value)(w0 w:World)(he:Env w0)(hb0:Below w0.heap.size w0 w)(hgi:w0.heap.size≤gi)(hne:gi≠g)(hI:w.heap[gi]?=some (.cells r.cs 104 (0,0)))(hs:s0=[110,101])(hs2:s2=[101,108,115,101])(hg:w.heap[g]?=some (.cells cs 9 (0,0)))(hcs:∀ j,j<[s0,s1,s2,s3].length→cs[o+j]?=some (.string ⟨([s0,s1,s2,s3].getD j []).toArray⟩))(hl1:s1.length≤4294967280)(hl3:s3.length≤4294967280) :
  Calls Tryz.prog 115 #[.pointer (some ⟨gi,0,none⟩),.slice (some ⟨g,o,none⟩) 4 4] w fun e w' =>
   ∃ v,e=.returned v∧Dk w' v (Bu r [s0,s1,s2,s3]).2∧w'.heap[gi]?=some (.cells (Bu r [s0,s1,s2,s3]).1.cs 104 (0,0))∧w.grownBy w' (some gi):=by
 have c0:w.cell? ⟨g,o,none⟩=some (.string ⟨s0.toArray⟩):=(Bc hg o).trans (hcs 0 (by simp));have c1:w.cell? ⟨g,o+1,none⟩=some (.string ⟨s1.toArray⟩):=(Bc hg (o+1)).trans (hcs 1 (by simp));have c2:w.cell? ⟨g,o+2,none⟩=some (.string ⟨s2.toArray⟩):=(Bc hg (o+2)).trans (hcs 2 (by simp));have c3:w.cell? ⟨g,o+3,none⟩=some (.string ⟨s3.toArray⟩):=(Bc hg (o+3)).trans (hcs 3 (by simp));have i6:w.cell? ⟨gi,6,none⟩=some (.int .u32 r.k):=(Bc hI 6).trans rfl;have i7:w.cell? ⟨gi,7,none⟩=some (.int .i64 r.q):=(Bc hI 7).trans rfl;have f6:=Bf hI 6;have f7:=Bf hI 7;have hne':g≠gi:=fun e=>hne e.symm
 have t0:(s0==[110,101])=true:=beq_iff_eq.2 hs;have t2:(s2==[101,108,115,101])=true:=beq_iff_eq.2 hs2;have hfin:Bu r [s0,s1,s2,s3]=({r with q:=Co s3,k:=1,t:=Co s1},[]):=by simp[Bu,hs,hs2]
 rw[hfin];clear hfin;replace hI:=Az hI;replace hg:=Az hg;replace hcs:=Az hcs;replace hs:=Az hs;replace hs2:=Az hs2;go_enter Tryz.func115,Tryz.ntmps115;have hB1:=Az ((hb0.setCell (p:=⟨gi,7,none⟩) hgi (.int .i64 (-1))).setCell (p:=⟨gi,6,none⟩) hgi (.int .u32 1));go_wp2_with fail
 refine(BC s1 _ hl1 (he.below hB1.out)).mono ?_;rintro e w1 ⟨rfl,hb1⟩;have hI1:=Az (show w1.heap[gi]?=some (.cells (In.cs {r with q := -1,k:=1}) 104 (0,0)) from Bk hb1 (Bs (Bs (hI.out) 7 (.int .i64 (-1))) 6 (.int .u32 1)));have hg1:=Az (Bk hb1 (Ba (Ba (hg.out) hne' _) hne' _));have hr1:=Az (Ch (AK (AK (C0 w (some gi)) 7 _) 6 _) hb1);have i31:w1.cell? ⟨gi,3,none⟩=some (.int .i64 r.t):=(Bc hI1.out 3).trans rfl;have f31:=Bf hI1.out 3;have d2:w1.cell? ⟨g,o+2,none⟩=some (.string ⟨s2.toArray⟩):=(Bc hg1.out (o+2)).trans (hcs.out 2 (by simp));have d3:w1.cell? ⟨g,o+3,none⟩=some (.string ⟨s3.toArray⟩):=(Bc hg1.out (o+3)).trans (hcs.out 3 (by simp));have hB2:=Az ((hB1.out.trans (hb1.mono hB1.out.size)).setCell (p:=⟨gi,3,none⟩) hgi (.int .i64 (Co s1)));go_wp2_with fail
 refine(BC s3 _ hl3 (he.below hB2.out)).mono ?_;rintro e w2 ⟨rfl,hb2⟩;have hI2:=Az (show w2.heap[gi]?=some (.cells (In.cs {r with q := -1,k:=1,t:=Co s1}) 104 (0,0)) from Bk hb2 (Bs hI1.out 3 (.int .i64 (Co s1))));have hr2:=Az (Ch (AK hr1.out 3 _) hb2);have i72:w2.cell? ⟨gi,7,none⟩=some (.int .i64 (-1)):=(Bc hI2.out 7).trans rfl;have f72:=Bf hI2.out 7;go_wp2;go_ret;exact⟨_,rfl,.inl ⟨rfl,_,rfl⟩,Bs hI2.out 7 (.int .i64 (Co s3)),AK hr2.out 7 _⟩
theorem VP(gi g o:Nat)(r:In)(s0 s1 s2 s3:List UInt8)(cs:Array Value)(w0 w:World)(he:Env w0)(hb0:Below w0.heap.size w0 w)(hgi:w0.heap.size≤gi)(hne:gi≠g)(hI:w.heap[gi]?=some (.cells r.cs 104 (0,0)))(hs:s0=[110,101])(hs2:s2≠[101,108,115,101])(hg:w.heap[g]?=some (.cells cs 9 (0,0)))(hcs:∀ j,j<[s0,s1,s2,s3].length→cs[o+j]?=some (.string ⟨([s0,s1,s2,s3].getD j []).toArray⟩))(hl1:s1.length≤4294967280)(hl3:s3.length≤4294967280) :
  Calls Tryz.prog 115 #[.pointer (some ⟨gi,0,none⟩),.slice (some ⟨g,o,none⟩) 4 4] w fun e w' =>
   ∃ v,e=.returned v∧Dk w' v (Bu r [s0,s1,s2,s3]).2∧w'.heap[gi]?=some (.cells (Bu r [s0,s1,s2,s3]).1.cs 104 (0,0))∧w.grownBy w' (some gi):=by
 have c0:w.cell? ⟨g,o,none⟩=some (.string ⟨s0.toArray⟩):=(Bc hg o).trans (hcs 0 (by simp));have c1:w.cell? ⟨g,o+1,none⟩=some (.string ⟨s1.toArray⟩):=(Bc hg (o+1)).trans (hcs 1 (by simp));have c2:w.cell? ⟨g,o+2,none⟩=some (.string ⟨s2.toArray⟩):=(Bc hg (o+2)).trans (hcs 2 (by simp));have c3:w.cell? ⟨g,o+3,none⟩=some (.string ⟨s3.toArray⟩):=(Bc hg (o+3)).trans (hcs 3 (by simp));have i6:w.cell? ⟨gi,6,none⟩=some (.int .u32 r.k):=(Bc hI 6).trans rfl;have i7:w.cell? ⟨gi,7,none⟩=some (.int .i64 r.q):=(Bc hI 7).trans rfl;have f6:=Bf hI 6;have f7:=Bf hI 7;have hne':g≠gi:=fun e=>hne e.symm
 have t0:(s0==[110,101])=true:=beq_iff_eq.2 hs;have t2:(s2==[101,108,115,101])=false:=Bq hs2;have hfin:Bu r [s0,s1,s2,s3]=({r with q := -1,k:=1,t:=Co s1},[s2,s3]):=by simp[Bu,hs,hs2]
 rw[hfin];clear hfin;replace hI:=Az hI;replace hg:=Az hg;replace hcs:=Az hcs;replace hs:=Az hs;replace hs2:=Az hs2;go_enter Tryz.func115,Tryz.ntmps115;have hB1:=Az ((hb0.setCell (p:=⟨gi,7,none⟩) hgi (.int .i64 (-1))).setCell (p:=⟨gi,6,none⟩) hgi (.int .u32 1));go_wp2_with fail
 refine(BC s1 _ hl1 (he.below hB1.out)).mono ?_;rintro e w1 ⟨rfl,hb1⟩;have hI1:=Az (show w1.heap[gi]?=some (.cells (In.cs {r with q := -1,k:=1}) 104 (0,0)) from Bk hb1 (Bs (Bs (hI.out) 7 (.int .i64 (-1))) 6 (.int .u32 1)));have hg1:=Az (Bk hb1 (Ba (Ba (hg.out) hne' _) hne' _));have hr1:=Az (Ch (AK (AK (C0 w (some gi)) 7 _) 6 _) hb1);have i31:w1.cell? ⟨gi,3,none⟩=some (.int .i64 r.t):=(Bc hI1.out 3).trans rfl;have f31:=Bf hI1.out 3;have d2:w1.cell? ⟨g,o+2,none⟩=some (.string ⟨s2.toArray⟩):=(Bc hg1.out (o+2)).trans (hcs.out 2 (by simp));have d3:w1.cell? ⟨g,o+3,none⟩=some (.string ⟨s3.toArray⟩):=(Bc hg1.out (o+3)).trans (hcs.out 3 (by simp));go_wp2;go_ret;exact⟨_,rfl,.inr ⟨g,o+2,rfl,_,Ba hg1.out hne' _,fun j hj=>by have:=hcs.out (2+j) (by simp at hj ⊢;omega);rw[←Nat.add_assoc]at this;simpa [Nat.add_comm 2 j]using this⟩,Bs hI1.out 3 (.int .i64 (Co s1)),AK hr1.out 3 _⟩
theorem VQ(gi g o:Nat)(r:In)(s0 s1 s2 s3:List UInt8)(cs:Array Value)(w0 w:World)(he:Env w0)(hb0:Below w0.heap.size w0 w)(hgi:w0.heap.size≤gi)(hne:gi≠g)(hI:w.heap[gi]?=some (.cells r.cs 104 (0,0)))(hs:s0≠[110,101])(hs2:s2=[101,108,115,101])(hg:w.heap[g]?=some (.cells cs 9 (0,0)))(hcs:∀ j,j<[s0,s1,s2,s3].length→cs[o+j]?=some (.string ⟨([s0,s1,s2,s3].getD j []).toArray⟩))(hl1:s1.length≤4294967280)(hl3:s3.length≤4294967280) :
  Calls Tryz.prog 115 #[.pointer (some ⟨gi,0,none⟩),.slice (some ⟨g,o,none⟩) 4 4] w fun e w' =>
   ∃ v,e=.returned v∧Dk w' v (Bu r [s0,s1,s2,s3]).2∧w'.heap[gi]?=some (.cells (Bu r [s0,s1,s2,s3]).1.cs 104 (0,0))∧w.grownBy w' (some gi):=by
 have c0:w.cell? ⟨g,o,none⟩=some (.string ⟨s0.toArray⟩):=(Bc hg o).trans (hcs 0 (by simp));have c1:w.cell? ⟨g,o+1,none⟩=some (.string ⟨s1.toArray⟩):=(Bc hg (o+1)).trans (hcs 1 (by simp));have c2:w.cell? ⟨g,o+2,none⟩=some (.string ⟨s2.toArray⟩):=(Bc hg (o+2)).trans (hcs 2 (by simp));have c3:w.cell? ⟨g,o+3,none⟩=some (.string ⟨s3.toArray⟩):=(Bc hg (o+3)).trans (hcs 3 (by simp));have i6:w.cell? ⟨gi,6,none⟩=some (.int .u32 r.k):=(Bc hI 6).trans rfl;have i7:w.cell? ⟨gi,7,none⟩=some (.int .i64 r.q):=(Bc hI 7).trans rfl;have f6:=Bf hI 6;have f7:=Bf hI 7;have hne':g≠gi:=fun e=>hne e.symm
 have t0:(s0==[110,101])=false:=Bq hs;have t2:(s2==[101,108,115,101])=true:=beq_iff_eq.2 hs2;have hfin:Bu r [s0,s1,s2,s3]=({r with q:=Co s3,t:=Co s1},[]):=by simp[Bu,hs,hs2]
 rw[hfin];clear hfin;replace hI:=Az hI;replace hg:=Az hg;replace hcs:=Az hcs;replace hs:=Az hs;replace hs2:=Az hs2;go_enter Tryz.func115,Tryz.ntmps115;have hB1:=Az (hb0.setCell (p:=⟨gi,7,none⟩) hgi (.int .i64 (-1)));go_wp2_with fail
 refine(BC s1 _ hl1 (he.below hB1.out)).mono ?_;rintro e w1 ⟨rfl,hb1⟩;have hI1:=Az (show w1.heap[gi]?=some (.cells (In.cs {r with q := -1}) 104 (0,0)) from Bk hb1 (Bs (hI.out) 7 (.int .i64 (-1))));have hg1:=Az (Bk hb1 (Ba (hg.out) hne' _));have hr1:=Az (Ch (AK (C0 w (some gi)) 7 _) hb1);have i31:w1.cell? ⟨gi,3,none⟩=some (.int .i64 r.t):=(Bc hI1.out 3).trans rfl;have f31:=Bf hI1.out 3;have d2:w1.cell? ⟨g,o+2,none⟩=some (.string ⟨s2.toArray⟩):=(Bc hg1.out (o+2)).trans (hcs.out 2 (by simp));have d3:w1.cell? ⟨g,o+3,none⟩=some (.string ⟨s3.toArray⟩):=(Bc hg1.out (o+3)).trans (hcs.out 3 (by simp));have hB2:=Az ((hB1.out.trans (hb1.mono hB1.out.size)).setCell (p:=⟨gi,3,none⟩) hgi (.int .i64 (Co s1)));go_wp2_with fail
 refine(BC s3 _ hl3 (he.below hB2.out)).mono ?_;rintro e w2 ⟨rfl,hb2⟩;have hI2:=Az (show w2.heap[gi]?=some (.cells (In.cs {r with q := -1,t:=Co s1}) 104 (0,0)) from Bk hb2 (Bs hI1.out 3 (.int .i64 (Co s1))));have hr2:=Az (Ch (AK hr1.out 3 _) hb2);have i72:w2.cell? ⟨gi,7,none⟩=some (.int .i64 (-1)):=(Bc hI2.out 7).trans rfl;have f72:=Bf hI2.out 7;go_wp2;go_ret;exact⟨_,rfl,.inl ⟨rfl,_,rfl⟩,Bs hI2.out 7 (.int .i64 (Co s3)),AK hr2.out 7 _⟩
theorem VR(gi g o:Nat)(r:In)(s0 s1 s2 s3:List UInt8)(cs:Array Value)(w0 w:World)(he:Env w0)(hb0:Below w0.heap.size w0 w)(hgi:w0.heap.size≤gi)(hne:gi≠g)(hI:w.heap[gi]?=some (.cells r.cs 104 (0,0)))(hs:s0≠[110,101])(hs2:s2≠[101,108,115,101])(hg:w.heap[g]?=some (.cells cs 9 (0,0)))(hcs:∀ j,j<[s0,s1,s2,s3].length→cs[o+j]?=some (.string ⟨([s0,s1,s2,s3].getD j []).toArray⟩))(hl1:s1.length≤4294967280)(hl3:s3.length≤4294967280) :
  Calls Tryz.prog 115 #[.pointer (some ⟨gi,0,none⟩),.slice (some ⟨g,o,none⟩) 4 4] w fun e w' =>
   ∃ v,e=.returned v∧Dk w' v (Bu r [s0,s1,s2,s3]).2∧w'.heap[gi]?=some (.cells (Bu r [s0,s1,s2,s3]).1.cs 104 (0,0))∧w.grownBy w' (some gi):=by
 have c0:w.cell? ⟨g,o,none⟩=some (.string ⟨s0.toArray⟩):=(Bc hg o).trans (hcs 0 (by simp));have c1:w.cell? ⟨g,o+1,none⟩=some (.string ⟨s1.toArray⟩):=(Bc hg (o+1)).trans (hcs 1 (by simp));have c2:w.cell? ⟨g,o+2,none⟩=some (.string ⟨s2.toArray⟩):=(Bc hg (o+2)).trans (hcs 2 (by simp));have c3:w.cell? ⟨g,o+3,none⟩=some (.string ⟨s3.toArray⟩):=(Bc hg (o+3)).trans (hcs 3 (by simp));have i6:w.cell? ⟨gi,6,none⟩=some (.int .u32 r.k):=(Bc hI 6).trans rfl;have i7:w.cell? ⟨gi,7,none⟩=some (.int .i64 r.q):=(Bc hI 7).trans rfl;have f6:=Bf hI 6;have f7:=Bf hI 7;have hne':g≠gi:=fun e=>hne e.symm
 have t0:(s0==[110,101])=false:=Bq hs;have t2:(s2==[101,108,115,101])=false:=Bq hs2;have hfin:Bu r [s0,s1,s2,s3]=({r with q := -1,t:=Co s1},[s2,s3]):=by simp[Bu,hs,hs2]
 rw[hfin];clear hfin;replace hI:=Az hI;replace hg:=Az hg;replace hcs:=Az hcs;replace hs:=Az hs;replace hs2:=Az hs2;go_enter Tryz.func115,Tryz.ntmps115;have hB1:=Az (hb0.setCell (p:=⟨gi,7,none⟩) hgi (.int .i64 (-1)));go_wp2_with fail
 refine(BC s1 _ hl1 (he.below hB1.out)).mono ?_;rintro e w1 ⟨rfl,hb1⟩;have hI1:=Az (show w1.heap[gi]?=some (.cells (In.cs {r with q := -1}) 104 (0,0)) from Bk hb1 (Bs (hI.out) 7 (.int .i64 (-1))));have hg1:=Az (Bk hb1 (Ba (hg.out) hne' _));have hr1:=Az (Ch (AK (C0 w (some gi)) 7 _) hb1);have i31:w1.cell? ⟨gi,3,none⟩=some (.int .i64 r.t):=(Bc hI1.out 3).trans rfl;have f31:=Bf hI1.out 3;have d2:w1.cell? ⟨g,o+2,none⟩=some (.string ⟨s2.toArray⟩):=(Bc hg1.out (o+2)).trans (hcs.out 2 (by simp));have d3:w1.cell? ⟨g,o+3,none⟩=some (.string ⟨s3.toArray⟩):=(Bc hg1.out (o+3)).trans (hcs.out 3 (by simp));go_wp2;go_ret;exact⟨_,rfl,.inr ⟨g,o+2,rfl,_,Ba hg1.out hne' _,fun j hj=>by have:=hcs.out (2+j) (by simp at hj ⊢;omega);rw[←Nat.add_assoc]at this;simpa [Nat.add_comm 2 j]using this⟩,Bs hI1.out 3 (.int .i64 (Co s1)),AK hr1.out 3 _⟩
theorem XH(gi g o:Nat)(r:In)(s0 s1 s2 s3 s4:List UInt8)(cs:Array Value)(w0 w:World)(he:Env w0)(hb0:Below w0.heap.size w0 w)(hgi:w0.heap.size≤gi)(hne:gi≠g)(hI:w.heap[gi]?=some (.cells r.cs 104 (0,0)))(hs:s0=[110,101])(rest:List (List UInt8))(Jg:rest.length≤200000)(hg:w.heap[g]?=some (.cells cs 9 (0,0)))(hcs:∀ j,j<(s0::s1::s2::s3::s4::rest).length→cs[o+j]?=some (.string ⟨((s0::s1::s2::s3::s4::rest).getD j []).toArray⟩))(hl1:s1.length≤4294967280) :
  Calls Tryz.prog 115 #[.pointer (some ⟨gi,0,none⟩),.slice (some ⟨g,o,none⟩) (rest.length+1+1+1+1+1) (rest.length+1+1+1+1+1)] w fun e w' =>
   ∃ v,e=.returned v∧Dk w' v (Bu r (s0::s1::s2::s3::s4::rest)).2∧w'.heap[gi]?=some (.cells (Bu r (s0::s1::s2::s3::s4::rest)).1.cs 104 (0,0))∧w.grownBy w' (some gi):=by
 have c0:w.cell? ⟨g,o,none⟩=some (.string ⟨s0.toArray⟩):=(Bc hg o).trans (hcs 0 (by simp));have c1:w.cell? ⟨g,o+1,none⟩=some (.string ⟨s1.toArray⟩):=(Bc hg (o+1)).trans (hcs 1 (by simp));have c2:w.cell? ⟨g,o+2,none⟩=some (.string ⟨s2.toArray⟩):=(Bc hg (o+2)).trans (hcs 2 (by simp));have c3:w.cell? ⟨g,o+3,none⟩=some (.string ⟨s3.toArray⟩):=(Bc hg (o+3)).trans (hcs 3 (by simp));have i6:w.cell? ⟨gi,6,none⟩=some (.int .u32 r.k):=(Bc hI 6).trans rfl;have i7:w.cell? ⟨gi,7,none⟩=some (.int .i64 r.q):=(Bc hI 7).trans rfl;have f6:=Bf hI 6;have f7:=Bf hI 7;have hne':g≠gi:=fun e=>hne e.symm
 have t0:(s0==[110,101])=true:=beq_iff_eq.2 hs;have hfin:Bu r (s0::s1::s2::s3::s4::rest)=({r with q := -1,k:=1,t:=Co s1},s2::s3::s4::rest):=by simp[Bu,hs]
 rw[hfin];clear hfin;have hmin:(min 2 ((rest.length:Int)+1+1+1+1+1))=2:=by omega
 replace hI:=Az hI;replace hg:=Az hg;replace hcs:=Az hcs;replace hs:=Az hs;go_enter Tryz.func115,Tryz.ntmps115;have hB1:=Az ((hb0.setCell (p:=⟨gi,7,none⟩) hgi (.int .i64 (-1))).setCell (p:=⟨gi,6,none⟩) hgi (.int .u32 1));go_wp2_with fail
 refine(BC s1 _ hl1 (he.below hB1.out)).mono ?_;rintro e w1 ⟨rfl,hb1⟩;have hI1:=Az (show w1.heap[gi]?=some (.cells (In.cs {r with q := -1,k:=1}) 104 (0,0)) from Bk hb1 (Bs (Bs (hI.out) 7 (.int .i64 (-1))) 6 (.int .u32 1)));have hg1:=Az (Bk hb1 (Ba (Ba (hg.out) hne' _) hne' _));have hr1:=Az (Ch (AK (AK (C0 w (some gi)) 7 _) 6 _) hb1);have i31:w1.cell? ⟨gi,3,none⟩=some (.int .i64 r.t):=(Bc hI1.out 3).trans rfl;have f31:=Bf hI1.out 3;go_wp2;go_ret;exact⟨_,rfl,.inr ⟨g,o+2,rfl,_,Ba hg1.out hne' _,fun j hj=>by have:=hcs.out (2+j) (by simp at hj ⊢;omega);rw[←Nat.add_assoc]at this;simpa [Nat.add_comm 2 j]using this⟩,Bs hI1.out 3 (.int .i64 (Co s1)),AK hr1.out 3 _⟩
theorem XI(gi g o:Nat)(r:In)(s0 s1 s2 s3 s4:List UInt8)(cs:Array Value)(w0 w:World)(he:Env w0)(hb0:Below w0.heap.size w0 w)(hgi:w0.heap.size≤gi)(hne:gi≠g)(hI:w.heap[gi]?=some (.cells r.cs 104 (0,0)))(hs:s0≠[110,101])(rest:List (List UInt8))(Jg:rest.length≤200000)(hg:w.heap[g]?=some (.cells cs 9 (0,0)))(hcs:∀ j,j<(s0::s1::s2::s3::s4::rest).length→cs[o+j]?=some (.string ⟨((s0::s1::s2::s3::s4::rest).getD j []).toArray⟩))(hl1:s1.length≤4294967280) :
  Calls Tryz.prog 115 #[.pointer (some ⟨gi,0,none⟩),.slice (some ⟨g,o,none⟩) (rest.length+1+1+1+1+1) (rest.length+1+1+1+1+1)] w fun e w' =>
   ∃ v,e=.returned v∧Dk w' v (Bu r (s0::s1::s2::s3::s4::rest)).2∧w'.heap[gi]?=some (.cells (Bu r (s0::s1::s2::s3::s4::rest)).1.cs 104 (0,0))∧w.grownBy w' (some gi):=by
 have c0:w.cell? ⟨g,o,none⟩=some (.string ⟨s0.toArray⟩):=(Bc hg o).trans (hcs 0 (by simp));have c1:w.cell? ⟨g,o+1,none⟩=some (.string ⟨s1.toArray⟩):=(Bc hg (o+1)).trans (hcs 1 (by simp));have c2:w.cell? ⟨g,o+2,none⟩=some (.string ⟨s2.toArray⟩):=(Bc hg (o+2)).trans (hcs 2 (by simp));have c3:w.cell? ⟨g,o+3,none⟩=some (.string ⟨s3.toArray⟩):=(Bc hg (o+3)).trans (hcs 3 (by simp));have i6:w.cell? ⟨gi,6,none⟩=some (.int .u32 r.k):=(Bc hI 6).trans rfl;have i7:w.cell? ⟨gi,7,none⟩=some (.int .i64 r.q):=(Bc hI 7).trans rfl;have f6:=Bf hI 6;have f7:=Bf hI 7;have hne':g≠gi:=fun e=>hne e.symm
 have t0:(s0==[110,101])=false:=Bq hs;have hfin:Bu r (s0::s1::s2::s3::s4::rest)=({r with q := -1,t:=Co s1},s2::s3::s4::rest):=by simp[Bu,hs]
 rw[hfin];clear hfin;have hmin:(min 2 ((rest.length:Int)+1+1+1+1+1))=2:=by omega
 replace hI:=Az hI;replace hg:=Az hg;replace hcs:=Az hcs;replace hs:=Az hs;go_enter Tryz.func115,Tryz.ntmps115;have hB1:=Az (hb0.setCell (p:=⟨gi,7,none⟩) hgi (.int .i64 (-1)));go_wp2_with fail
 refine(BC s1 _ hl1 (he.below hB1.out)).mono ?_;rintro e w1 ⟨rfl,hb1⟩;have hI1:=Az (show w1.heap[gi]?=some (.cells (In.cs {r with q := -1}) 104 (0,0)) from Bk hb1 (Bs (hI.out) 7 (.int .i64 (-1))));have hg1:=Az (Bk hb1 (Ba (hg.out) hne' _));have hr1:=Az (Ch (AK (C0 w (some gi)) 7 _) hb1);have i31:w1.cell? ⟨gi,3,none⟩=some (.int .i64 r.t):=(Bc hI1.out 3).trans rfl;have f31:=Bf hI1.out 3;go_wp2;go_ret;exact⟨_,rfl,.inr ⟨g,o+2,rfl,_,Ba hg1.out hne' _,fun j hj=>by have:=hcs.out (2+j) (by simp at hj ⊢;omega);rw[←Nat.add_assoc]at this;simpa [Nat.add_comm 2 j]using this⟩,Bs hI1.out 3 (.int .i64 (Co s1)),AK hr1.out 3 _⟩
theorem Rj(gi g o:Nat)(r:In)(ss:List (List UInt8))(cs:Array Value)(w0 w:World)(he:Env w0)(hb0:Below w0.heap.size w0 w)(hgi:w0.heap.size≤gi)(hne:gi≠g)(hI:w.heap[gi]?=some (.cells r.cs 104 (0,0)))
  (hss:ss≠[])(hl:∀ s∈ss,s.length≤4294967280)(hn:ss.length≤200000)(hg:w.heap[g]?=some (.cells cs 9 (0,0)))(hcs:∀ j,j<ss.length→cs[o+j]?=some (.string ⟨(ss.getD j []).toArray⟩)) :
  Calls Tryz.prog 115 #[.pointer (some ⟨gi,0,none⟩),.slice (some ⟨g,o,none⟩) ss.length ss.length] w fun e w' =>
   ∃ v,e=.returned v∧Dk w' v (Bu r ss).2∧w'.heap[gi]?=some (.cells (Bu r ss).1.cs 104 (0,0))∧w.grownBy w' (some gi):=by
 match ss,hss,hl,hn,hcs with
 |[s0],_,hl,hn,hcs =>
  by_cases h:s0=[110,101]
  ·exact XB gi g o r s0 cs w0 w he hb0 hgi hne hI h hg hcs
  ·exact XC gi g o r s0 cs w0 w he hb0 hgi hne hI h hg hcs
 |[s0,s1],_,hl,hn,hcs =>
  have h1:=hl s1 (by simp);by_cases h:s0=[110,101]
  ·exact XD gi g o r s0 s1 cs w0 w he hb0 hgi hne hI h hg hcs h1
  ·exact XE gi g o r s0 s1 cs w0 w he hb0 hgi hne hI h hg hcs h1
 |[s0,s1,s2],_,hl,hn,hcs =>
  have h1:=hl s1 (by simp);by_cases h:s0=[110,101]
  ·exact XF gi g o r s0 s1 s2 cs w0 w he hb0 hgi hne hI h hg hcs h1
  ·exact XG gi g o r s0 s1 s2 cs w0 w he hb0 hgi hne hI h hg hcs h1
 |[s0,s1,s2,s3],_,hl,hn,hcs =>
  have h1:=hl s1 (by simp);have h3:=hl s3 (by simp);by_cases h2:s2=[101,108,115,101]
  ·by_cases h:s0=[110,101]
   ·exact VO gi g o r s0 s1 s2 s3 cs w0 w he hb0 hgi hne hI h h2 hg hcs h1 h3
   ·exact VQ gi g o r s0 s1 s2 s3 cs w0 w he hb0 hgi hne hI h h2 hg hcs h1 h3
  ·by_cases h:s0=[110,101]
   ·exact VP gi g o r s0 s1 s2 s3 cs w0 w he hb0 hgi hne hI h h2 hg hcs h1 h3
   ·exact VR gi g o r s0 s1 s2 s3 cs w0 w he hb0 hgi hne hI h h2 hg hcs h1 h3
 |s0::s1::s2::s3::s4::rest,_,hl,hn,hcs =>
  have h1:=hl s1 (by simp);have hr:rest.length≤200000:=by simp at hn;omega
  by_cases h:s0=[110,101]
  ·exact XH gi g o r s0 s1 s2 s3 s4 cs w0 w he hb0 hgi hne hI h rest hr hg hcs h1
  ·exact XI gi g o r s0 s1 s2 s3 s4 cs w0 w he hb0 hgi hne hI h rest hr hg hcs h1
def E1(w:World)(g c:Nat)(ss:List (List UInt8)):Prop :=
 ∃ cur:Array Value,w.heap[g]?=some (.cells cur 9 (0,0))∧ss.length≤c∧c≤maxLen∧cur.size=c∧cur.toList.take ss.length=ss.map fun l=>Value.string ⟨l.toArray⟩
theorem GJ(v:Int)(h:0≤v∧v≤7)(w:World) :
  Calls Tryz.prog 135 #[.int .i64 v] w fun e w'=>e=.returned (.string ⟨(dec v).toArray⟩)∧w'=w:=by
 obtain⟨n,rfl⟩:=Int.eq_ofNat_of_zero_le h.1;refine(Tryz.strconv_Itoa_small n (by omega) w).mono ?_;rintro e w' ⟨rfl,rfl⟩;exact⟨by simp[dec],rfl⟩
theorem row_one(w:World)(s:ByteArray)(l:List UInt8)(h:s=⟨l.toArray⟩):E1 (w.alloc (.cells #[.string s] 9)) w.heap.size 1 [l] :=
 ⟨_,Bv _ _,Nl _,by simp[maxLen],rfl,by rw[h];rfl⟩
theorem PT(w:World)(o:Obj)(s:ByteArray)(l:List UInt8)(h:s=⟨l.toArray⟩):E1 ((w.alloc o).alloc (.cells #[.string s] 9)) (w.heap.size+1) 1 [l]:=by
 have:=row_one (w.alloc o) s l h
 simpa using this
theorem Tg(op d s t u a k q sg:Int)(j:Nat)(v:Int)(w:World)(hfo:AE sg=some j)(hj:j≠5)(hv:In.get ⟨op,d,s,t,u,a,k,q⟩ j=v)(hv7:0≤v∧v≤7) :
  Calls Tryz.prog 124 #[.agg #[.int .i64 op,.int .i64 d,.int .i64 s,.int .i64 t,.int .i64 u,.int .i64 a,.int .u32 k,.int .i64 q],.int .u8 sg] w fun e w' =>
   ∃ g c,e=.returned (.slice (some ⟨g,0,none⟩) 1 c)∧w.heap.size≤g∧E1 w' g c [114::dec v]∧Below w.heap.size w w':=by
 have hbd:=Hc hfo;have n65:(sg != 65)=true:=by
  rcases CP hfo with ⟨rfl,_⟩ |⟨rfl,_⟩ |⟨rfl,_⟩ |⟨rfl,_⟩ |⟨rfl,rfl⟩
  all_goals first |rfl |omega
 have cj:∀ o,(w.alloc (.cells #[.int .i64 op,.int .i64 d,.int .i64 s,.int .i64 t,.int .i64 u,.int .i64 a,.int .u32 k,.int .i64 q] o)).cell? ⟨w.heap.size,j,none⟩=some (.int .i64 v):=fun o=>by
  rw[←hv];exact(Bc (Bv _ _) j).trans (In.c ⟨op,d,s,t,u,a,k,q⟩ j hbd.1 hbd.2)
 replace cj:=cj 104;have hdl:(dec v).length≤20:=D9 _ (by omega);replace hfo:=Az hfo;replace hv:=Az hv;go_enter Tryz.func124,Tryz.ntmps124;go_wp2_with fail
 refine(Cz _ _ _ _ hfo.out).mono ?_;rintro e w' ⟨rfl,rfl⟩;go_wp2_with fail
 refine(GJ v hv7 _).mono ?_;rintro e w' ⟨rfl,rfl⟩;go_wp2;go_ret;refine⟨w.heap.size+1,1,?_,by omega,?_,?_⟩
 ·rfl
 ·exact PT _ _ _ _ (BV [114] (dec v))
 ·exact((Below.refl w.heap.size w).alloc (Nl _) _).alloc (by simp) _
theorem QC(op d s t u a k q:Int)(w:World)(hv7:0≤a∧a≤7) :
  Calls Tryz.prog 124 #[.agg #[.int .i64 op,.int .i64 d,.int .i64 s,.int .i64 t,.int .i64 u,.int .i64 a,.int .u32 k,.int .i64 q],.int .u8 65] w fun e w' =>
   ∃ g c,e=.returned (.slice (some ⟨g,0,none⟩) 1 c)∧w.heap.size≤g∧E1 w' g c [dec a]∧Below w.heap.size w w':=by
 have hdl:(dec a).length≤20:=D9 _ (by omega);go_enter Tryz.func124,Tryz.ntmps124;go_wp2_with fail
 refine(Cz _ _ _ _ (show AE 65=some 5 from rfl)).mono ?_;rintro e w' ⟨rfl,rfl⟩;go_wp2_with fail
 refine(GJ a hv7 _).mono ?_;rintro e w' ⟨rfl,rfl⟩;go_wp2;go_ret;refine⟨w.heap.size+1,1,?_,by omega,?_,?_⟩
 ·rfl
 ·exact PT _ _ _ _ rfl
 ·exact((Below.refl w.heap.size w).alloc (Nl _) _).alloc (by simp) _
theorem Ps(op d s t u a k q:Int)(w:World)(he:Env w)(hq:0≤q∧q≤1073741824) :
  Calls Tryz.prog 124 #[.agg #[.int .i64 op,.int .i64 d,.int .i64 s,.int .i64 t,.int .i64 u,.int .i64 a,.int .u32 k,.int .i64 q],.int .u8 80] w fun e w' =>
   ∃ g c,e=.returned (.slice (some ⟨g,0,none⟩) 1 c)∧w.heap.size≤g∧E1 w' g c [dec q]∧Below w.heap.size w w':=by
 have hdl:(dec q).length≤20:=D9 _ (by omega);replace he:=he.below ((Below.refl w.heap.size w).alloc (Nl _) (.cells (In.cs ⟨op,d,s,t,u,a,k,q⟩) 104));have h0:=Below.alloc (Below.refl w.heap.size w) (Nl _) (.cells (In.cs ⟨op,d,s,t,u,a,k,q⟩) 104);go_enter Tryz.func124,Tryz.ntmps124;go_wp2_with fail
 refine(B5 _ _ _ (show AE 80=none from rfl)).mono ?_;rintro e w' ⟨rfl,rfl⟩;go_wp2_with fail
 refine(LH q hq.1 (by omega) _ he).mono ?_;rintro e w1 ⟨rfl,hb⟩;have hz:=hb.size;simp at hz;go_wp2;go_ret;have hb':=h0.trans (hb.mono (by simp));refine⟨w1.heap.size,1,?_,by omega,?_,?_⟩
 ·rfl
 ·exact row_one _ _ _ rfl
 ·exact hb'.alloc hb'.size _
theorem Th(op d s t u a k q sg:Int)(w:World)(he:Env w)(hk:0≤k∧k≤4294967295)(hfo:AE sg=none)(h80:sg≠80)(h87:sg≠87)(h65:sg≠65) :
  Calls Tryz.prog 124 #[.agg #[.int .i64 op,.int .i64 d,.int .i64 s,.int .i64 t,.int .i64 u,.int .i64 a,.int .u32 k,.int .i64 q],.int .u8 sg] w fun e w' =>
   ∃ g c,e=.returned (.slice (some ⟨g,0,none⟩) 1 c)∧w.heap.size≤g∧E1 w' g c [dec k]∧Below w.heap.size w w':=by
 obtain⟨k,rfl⟩:=Int.eq_ofNat_of_zero_le hk.1;have hdl:(Lib.decDigits k).length≤20:=D9 _ (by omega);have hd:dec (k:Int)=Lib.decDigits k:=by simp[dec]
 rw[hd];clear hd;have g80:(sg==80)=false:=Bq h80;have g87:(sg==87)=false:=Bq h87;have g65:(sg==65)=false:=Bq h65;replace hfo:=Az hfo;replace he:=he.below ((Below.refl w.heap.size w).alloc (Nl _) (.cells (In.cs ⟨op,d,s,t,u,a,k,q⟩) 104));have h0:=Below.alloc (Below.refl w.heap.size w) (Nl _) (.cells (In.cs ⟨op,d,s,t,u,a,k,q⟩) 104);go_enter Tryz.func124,Tryz.ntmps124;go_wp2_with fail
 refine(B5 _ _ _ hfo.out).mono ?_;rintro e w' ⟨rfl,rfl⟩;go_wp2_with fail
 refine(O1 k (by omega) _ he).mono ?_;rintro e w1 ⟨rfl,hb⟩;have hz:=hb.size;simp at hz;go_wp2;go_ret;have hb':=h0.trans (hb.mono (by simp));refine⟨w1.heap.size,1,?_,by omega,?_,?_⟩
 ·rfl
 ·exact row_one _ _ _ rfl
 ·exact hb'.alloc hb'.size _
theorem GU:(Tryz.prog.info? 9).map (fun i=>(i.zero,i.size,i.bytes))=some (some (.string ⟨#[]⟩),1,16):=by kernel_rfl
theorem My(op d s t u a k q:Int)(wd:List UInt8)(w:World)(he:Env w)(ht:0≤t∧t≤7)(hq:q = -1)
  (i0:∀ W,(Instr.index 185 (.agg #[.string ⟨#[101,113]⟩,.string ⟨#[110,101]⟩]) (.int .u32 (min k 1))).run Tryz.prog W=.ok (.string ⟨wd.toArray⟩) W) :
  Calls Tryz.prog 124 #[.agg #[.int .i64 op,.int .i64 d,.int .i64 s,.int .i64 t,.int .i64 u,.int .i64 a,.int .u32 k,.int .i64 q],.int .u8 87] w fun e w' =>
   ∃ g c,e=.returned (.slice (some ⟨g,0,none⟩) 2 c)∧w.heap.size≤g∧E1 w' g c [wd,114::dec t]∧Below w.heap.size w w':=by
 have hqb:(q != -1)=false:=bne_eq_false_iff_eq.2 hq;clear hq;have hdl:(dec t).length≤20:=D9 _ (by omega);have hst:=Az (BV [114] (dec t));obtain⟨i9,hi,hz0,hz1,hz2⟩:=info_parts GU;replace hi:=Az hi;replace hz0:=Az hz0;replace hz1:=Az hz1;replace hz2:=Az hz2;go_enter Tryz.func124,Tryz.ntmps124;go_wp2_with fail
 refine(B5 _ _ _ (show AE 87=none from rfl)).mono ?_;rintro e w' ⟨rfl,rfl⟩;go_upto_region 10 with fail
 go_cut [7] (fun s7 wx=>s7=.slice (some ⟨w.heap.size+1,0,none⟩) 2 2∧Af (wx.heap[w.heap.size]?=some (.cells (In.cs ⟨op,d,s,t,u,a,k,q⟩) 104 (0,0))) ∧
  Af (wx.heap[w.heap.size+1]?=some (.cells #[.string ⟨wd.toArray⟩,.string ⟨(114::dec t).toArray⟩] 9 (0,0)))∧Af (Below w.heap.size w wx)∧Af (wx.heap.size=w.heap.size+2))
 case first =>
  have c6:(w.alloc (.cells #[.int .i64 op,.int .i64 d,.int .i64 s,.int .i64 t,.int .i64 u,.int .i64 a,.int .u32 k,.int .i64 q] 104)).cell? ⟨w.heap.size,6,none⟩=some (.int .u32 k):=(Bc (Bv _ _) 6).trans rfl;have c3:(w.alloc (.cells #[.int .i64 op,.int .i64 d,.int .i64 s,.int .i64 t,.int .i64 u,.int .i64 a,.int .u32 k,.int .i64 q] 104)).cell? ⟨w.heap.size,3,none⟩=some (.int .i64 t):=(Bc (Bv _ _) 3).trans rfl;have hsm:¬9223372036854775807<1+(dec t).length:=by omega
  go_region_held3 (fun W=>W.cell? ⟨w.heap.size,6,none⟩=some (.int .u32 k)∧W.cell? ⟨w.heap.size,3,none⟩=some (.int .i64 t)) (go_keep) ((go_at_call 135;refine(GJ t ht _).mono ?_;rintro e w' ⟨rfl,rfl⟩))
  all_goals
   go_wp2_with fail
   go_meet
   exact⟨rfl,⟨Be (AF (Bv _ _) _)⟩,⟨Be ((Dh _ _ _).trans (by rw[show(⟨#[114]⟩:ByteArray)++⟨(dec t).toArray⟩=⟨(114::dec t).toArray⟩ from hst.out]))⟩,⟨Bd (((Below.refl w.heap.size w).alloc (Nl _) _).alloc (by simp) _)⟩,⟨by simp⟩⟩
 case rest =>
  obtain⟨rfl,hB0,hB1,hbl,hsz⟩:=hcut;have z2:w.heap.size+1<wc.heap.size:=by have:=hsz.out;omega
  have c7:wc.cell? ⟨w.heap.size,7,none⟩=some (.int .i64 q):=(Bc hB0.out 7).trans rfl;go_wp2;go_ret;exact⟨w.heap.size+1,2,rfl,by omega,⟨_,hB1.out,Nl _,by simp[maxLen],rfl,rfl⟩,hbl.out⟩
theorem Mz(op d s t u a k q:Int)(wd:List UInt8)(w:World)(he:Env w)(ht:0≤t∧t≤7)(hq:0≤q∧q≤1073741824)
  (i0:∀ W,(Instr.index 185 (.agg #[.string ⟨#[101,113]⟩,.string ⟨#[110,101]⟩]) (.int .u32 (min k 1))).run Tryz.prog W=.ok (.string ⟨wd.toArray⟩) W) :
  Calls Tryz.prog 124 #[.agg #[.int .i64 op,.int .i64 d,.int .i64 s,.int .i64 t,.int .i64 u,.int .i64 a,.int .u32 k,.int .i64 q],.int .u8 87] w fun e w' =>
   ∃ g c,e=.returned (.slice (some ⟨g,0,none⟩) 4 c)∧w.heap.size≤g∧E1 w' g c [wd,114::dec t,[101,108,115,101],dec q]∧Below w.heap.size w w':=by
 have hqb:(q != -1)=true:=bne_iff_ne.2 (by omega);have hdl:(dec t).length≤20:=D9 _ (by omega);have hst:=Az (BV [114] (dec t));obtain⟨i9,hi,hz0,hz1,hz2⟩:=info_parts GU;replace hi:=Az hi;replace hz0:=Az hz0;replace hz1:=Az hz1;replace hz2:=Az hz2;go_enter Tryz.func124,Tryz.ntmps124;go_wp2_with fail
 refine(B5 _ _ _ (show AE 87=none from rfl)).mono ?_;rintro e w' ⟨rfl,rfl⟩;go_upto_region 10 with fail
 go_cut [7] (fun s7 wx=>s7=.slice (some ⟨w.heap.size+1,0,none⟩) 2 2∧Af (wx.heap[w.heap.size]?=some (.cells (In.cs ⟨op,d,s,t,u,a,k,q⟩) 104 (0,0))) ∧
  Af (wx.heap[w.heap.size+1]?=some (.cells #[.string ⟨wd.toArray⟩,.string ⟨(114::dec t).toArray⟩] 9 (0,0)))∧Af (Below w.heap.size w wx)∧Af (wx.heap.size=w.heap.size+2))
 case first =>
  have c6:(w.alloc (.cells #[.int .i64 op,.int .i64 d,.int .i64 s,.int .i64 t,.int .i64 u,.int .i64 a,.int .u32 k,.int .i64 q] 104)).cell? ⟨w.heap.size,6,none⟩=some (.int .u32 k):=(Bc (Bv _ _) 6).trans rfl;have c3:(w.alloc (.cells #[.int .i64 op,.int .i64 d,.int .i64 s,.int .i64 t,.int .i64 u,.int .i64 a,.int .u32 k,.int .i64 q] 104)).cell? ⟨w.heap.size,3,none⟩=some (.int .i64 t):=(Bc (Bv _ _) 3).trans rfl;have hsm:¬9223372036854775807<1+(dec t).length:=by omega
  go_region_held3 (fun W=>W.cell? ⟨w.heap.size,6,none⟩=some (.int .u32 k)∧W.cell? ⟨w.heap.size,3,none⟩=some (.int .i64 t)) (go_keep) ((go_at_call 135;refine(GJ t ht _).mono ?_;rintro e w' ⟨rfl,rfl⟩))
  all_goals
   go_wp2_with fail
   go_meet
   exact⟨rfl,⟨Be (AF (Bv _ _) _)⟩,⟨Be ((Dh _ _ _).trans (by rw[show(⟨#[114]⟩:ByteArray)++⟨(dec t).toArray⟩=⟨(114::dec t).toArray⟩ from hst.out]))⟩,⟨Bd (((Below.refl w.heap.size w).alloc (Nl _) _).alloc (by simp) _)⟩,⟨by simp⟩⟩
 case rest =>
  obtain⟨rfl,hB0,hB1,hbl,hsz⟩:=hcut;have z2:w.heap.size+1<wc.heap.size:=by have:=hsz.out;omega
  have c7:wc.cell? ⟨w.heap.size,7,none⟩=some (.int .i64 q):=(Bc hB0.out 7).trans rfl;have hwe:=he.below hbl.out;have hdq:(dec q).length≤20:=D9 _ (by omega);go_wp2_with fail
  refine(LH q (by omega) (by omega) _ hwe).mono ?_;rintro e w1 ⟨rfl,hb⟩;have hz1':=hb.size;have hR:w1.ownsRow w.heap.size 9 1 (.slice (some ⟨w.heap.size+1,0,none⟩) 2 2) 2 [.string ⟨wd.toArray⟩,.string ⟨(114::dec t).toArray⟩] :=
   ⟨rfl,.inr ⟨w.heap.size+1,2,_,rfl,by omega,Bk hb hB1.out,Nl _,by simp[maxLen],rfl,rfl⟩⟩
  replace hR:=Az hR;have hN:=Az (Bv w1 (.cells #[.string ⟨#[101,108,115,101]⟩,.string ⟨(dec q).toArray⟩] 9));have z1:w.heap.size+1<w1.heap.size:=by omega
  have ca:∀ j u,[Value.string ⟨#[101,108,115,101]⟩,Value.string ⟨(dec q).toArray⟩][j]?=some u→(w1.alloc (.cells #[.string ⟨#[101,108,115,101]⟩,.string ⟨(dec q).toArray⟩] 9)).cell? ((⟨w1.heap.size,0,none⟩:Addr).add j)=some u:=fun j u hj=>by
   rw[add_plain];exact(Bc hN.out j).trans (by simpa using hj)
  replace ca:=Az ca;go_wp2_with ((at_builtin;refine wpList_append_own _ rfl (.tmp 53) (.tmp 57) 85 rfl w.heap.size 9 i9 (.string ⟨#[]⟩) 1 16 Tryz.underlying85 hi.out hz0.out hz1.out hz2.out rfl (by decide) _ _ _ rfl (hR.out.alloc _) ⟨w1.heap.size,0,none⟩ 2 2 [.string ⟨#[101,108,115,101]⟩,.string ⟨(dec q).toArray⟩] rfl rfl ca.out ?c2 ?c3 ?c4 ?c5 ?_))
  case c2=>simp[Value.oneCell']
  case c3=>simp[maxLen]
  case c4=>omega
  case c5=>simp;omega
  intro v' w2 hown hgr hnil;have hbz:=hgr.size;simp at hbz;obtain⟨hlen,hcase⟩:=hown;have hcase':∃ g cap cur,v'=.slice (some ⟨g,0,none⟩) 4 cap∧w.heap.size≤g∧w2.heap[g]?=some (.cells cur 9 (0,0))∧4≤cap∧cap≤maxLen∧cur.size=cap*1∧cur.toList.take (4*1)=[.string ⟨wd.toArray⟩,.string ⟨(114::dec t).toArray⟩,.string ⟨#[101,108,115,101]⟩,.string ⟨(dec q).toArray⟩]:=by
   rcases hcase with ⟨_,h⟩ |h
   ·omega
   ·exact h
  clear hcase hlen;obtain⟨g,cap,cur,hv,hg,hblk,h4,hml,hcs,htk⟩:=hcase';clear hnil;rw[hv];have hfin:E1 w2 g cap [wd,114::dec t,[101,108,115,101],dec q]:=⟨cur,hblk,h4,hml,by omega,by simpa using htk⟩
  have hbe:Below w.heap.size w w2:=((hbl.out.trans (hb.mono (by omega))).alloc (by omega) _).grown hgr (by simp;omega) (fun k hk=>by simp[Value.ownBlock]at hk;omega);replace hfin:=Az hfin;clear hblk htk hv hcs;go_wp2;go_ret;exact⟨g,cap,rfl,hg,hfin.out,hbe⟩
end
end Go.Proofs.YtnmahobjmpdkdaaGreatDoor

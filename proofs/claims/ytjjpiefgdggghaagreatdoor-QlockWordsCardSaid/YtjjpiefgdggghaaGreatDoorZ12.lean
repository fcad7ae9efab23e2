/- Parts: Number, Wait. -/
import Derived.Test.YtjjpiefgdggghaaGreatDoorZ02
import Derived.Test.YtjjpiefgdggghaaGreatDoorZ04
import Derived.Test.YtjjpiefgdggghaaGreatDoorZ07
set_option linter.unusedVariables false
set_option linter.unusedSimpArgs false
set_option maxRecDepth 100000
set_option maxHeartbeats 40000000
namespace Go.Proofs.YtjjpiefgdggghaaGreatDoor
section
open Go.RowKit Go.Proofs.YtjjpiefgdggghaaGreatDoorW.PrintWords
theorem Fq(l:List UInt8)(w:World)(hl:l.length≤4294967280) :
  Calls Tryz.prog 167 #[.string ⟨l.toArray⟩,.string ⟨#[114]⟩] w fun e w'=>e=.returned (.string ⟨(DZ l).toArray⟩)∧w=w':=by
 cases l with
 |nil =>
  go_enter Tryz.func167,Tryz.ntmps167;go_wp2;go_ret;exact⟨rfl,rfl⟩
 |cons c r =>
  have h1:0≤(r.length:Int):=by omega
  simp at hl;by_cases h:c=114
  ·have ht:(((⟨(c::r).toArray⟩:ByteArray).extract 0 1).toList==[114])=true:=by rw[C5,toList_mk];simp[h]
   have he:(⟨(c::r).toArray⟩:ByteArray).extract 1 (r.length+1)=⟨(DZ (c::r)).toArray⟩:=by rw[C5,h];simp[DZ]
   replace he:=Az he;clear h;go_enter Tryz.func167,Tryz.ntmps167;go_wp2;go_ret;exact⟨congrArg (fun s=>Ending.returned (.string s)) he.out,rfl⟩
  ·have ht:(((⟨(c::r).toArray⟩:ByteArray).extract 0 1).toList==[114])=false:=by rw[C5,toList_mk];simp[h]
   have he:DZ (c::r)=c::r:=by unfold DZ;split<;>simp_all
   rw[he];clear h he;go_enter Tryz.func167,Tryz.ntmps167;go_wp2;go_ret;exact⟨rfl,rfl⟩
theorem AT(l:List UInt8)(w:World)(hl:l.length≤4294967280)(he:Env w) :
  Calls Tryz.prog 148 #[.string ⟨l.toArray⟩] w fun e w'=>e=.returned (.int .i64 (B7 l))∧Below w.heap.size w w':=by
 have hlt:=Lg l;have hz:(⟨(DZ l).toArray⟩:ByteArray).size=(DZ l).length:=by simp[ByteArray.size]
 obtain⟨ts,ps,hsy⟩:=he.Rd;obtain⟨tr,pr,hrg⟩:=he.Re;replace hsy:=Az hsy;replace hrg:=Az hrg;replace hz:=Az hz;cases hn:Lib.atoiAll (DZ l) with
 |ok v =>
  have e:B7 l=v:=by unfold B7;rw[hn]
  rw[e];replace hn:=Az hn;clear e;go_enter Tryz.func148,Tryz.ntmps148;go_wp2_with fail
  refine(Fq _ _ hl).mono ?_;rintro e w' ⟨rfl,rfl⟩;go_wp2_with fail
  refine(Tryz.strconv_Atoi_ok _ (by rw[hz.out];omega) v hn.out _).mono ?_;rintro e w1 ⟨rfl,hw⟩;have hb:Below w.heap.size w w1:=by
   rcases hw with rfl |⟨t,rfl⟩
   ·exact Below.refl _ _
   ·exact DH (Below.refl _ _) (Nl _) _ _
  clear hw;go_wp2;go_ret;exact⟨rfl,hb⟩
 |range =>
  have e:B7 l=Lib.atoiSat (DZ l):=by unfold B7;rw[hn]
  rw[e];replace hn:=Az hn;clear e;go_enter Tryz.func148,Tryz.ntmps148;go_wp2_with fail
  refine(Fq _ _ hl).mono ?_;rintro e w' ⟨rfl,rfl⟩;go_wp2_with fail
  refine(Tryz.strconv_Atoi_range_var _ (by rw[hz.out];omega) hn.out tr pr _ hrg.out).mono ?_;rintro e w1 ⟨N,rfl,hN,hB,hb⟩;clear hB;go_wp2;go_ret;exact⟨rfl,hb⟩
 |_ =>
  have e:B7 l=0:=by unfold B7;rw[hn]
  rw[e];replace hn:=Az hn;clear e;go_enter Tryz.func148,Tryz.ntmps148;go_wp2_with fail
  refine(Fq _ _ hl).mono ?_;rintro e w' ⟨rfl,rfl⟩;go_wp2_with fail
  refine(Tryz.strconv_Atoi_syntax_var _ (by rw[hz.out];omega) (fun v h=>by rw[hn.out]at h;cases h) (fun h=>by rw[hn.out]at h;cases h) ts ps _ hsy.out).mono ?_;rintro e w1 ⟨N,rfl,hN,hB,hb⟩;clear hB;go_wp2;go_ret;exact⟨rfl,hb⟩
def BZ(w:World)(v:Value)(ss:List (List UInt8)):Prop :=
 (ss=[]∧∃ A,v=.slice A 0 0)∨∃ g o,v=.slice (some ⟨g,o,none⟩) ss.length ss.length∧(∃ cs,w.heap[g]?=some (.cells cs 9 (0,0))∧∀ j,j<ss.length→cs[o+j]?=some (.string ⟨(ss.getD j []).toArray⟩))
theorem Ar{w w1:World}{g:Nat}(h:w.grownBy w1 (some g))(o:Nat)(v:Value):w.grownBy (w1.setCell ⟨g,o,none⟩ v) (some g) :=
 ⟨h.os,h.tape,h.output,by rw[World.setCell];simp;exact h.size,fun i hi hne=>(Below.heap_setCell w1 ⟨g,o,none⟩ v i (fun e=>hne (by rw[e]))).trans (h.block i hi hne)⟩
theorem BE(w:World)(row:Option Nat):w.grownBy w row:=⟨rfl,rfl,rfl,Nl _,fun _ _ _=>rfl⟩
theorem B5{w w1 w2:World}{row:Option Nat}(h:w.grownBy w1 row)(hb:Below w1.heap.size w1 w2):w.grownBy w2 row :=
 ⟨hb.os.trans h.os,hb.tape.trans h.tape,hb.output.trans h.output,Nat.le_trans h.size hb.size,fun i hi hne=>(hb.block i (Nat.lt_of_lt_of_le hi h.size)).trans (h.block i hi hne)⟩
theorem Od(gi g o:Nat)(r:In)(s0:List UInt8)(cs:Array Value)(w0 w:World)(he:Env w0)(hb0:Below w0.heap.size w0 w)(hgi:w0.heap.size≤gi)(hne:gi≠g)(hI:w.heap[gi]?=some (.cells r.cs 126 (0,0)))(hs:s0=[110,101])(hg:w.heap[g]?=some (.cells cs 9 (0,0)))(hcs:∀ j,j<[s0].length→cs[o+j]?=some (.string ⟨([s0].getD j []).toArray⟩)) :
  Calls Tryz.prog 150 #[.pointer (some ⟨gi,0,none⟩),.slice (some ⟨g,o,none⟩) 1 1] w fun e w' =>
   ∃ v,e=.returned v∧BZ w' v (AM r [s0]).2∧w'.heap[gi]?=some (.cells (AM r [s0]).1.cs 126 (0,0))∧w.grownBy w' (some gi):=by
 have c0:w.cell? ⟨g,o,none⟩=some (.string ⟨s0.toArray⟩):=(Bc hg o).trans (hcs 0 (by simp));have i6:w.cell? ⟨gi,6,none⟩=some (.int .u32 r.k):=(Bc hI 6).trans rfl;have i7:w.cell? ⟨gi,7,none⟩=some (.int .i64 r.q):=(Bc hI 7).trans rfl;have f6:=Bf hI 6;have f7:=Bf hI 7;have hne':g≠gi:=fun e=>hne e.symm
 have t0:(s0==[110,101])=true:=beq_iff_eq.2 hs;have hfin:AM r [s0]=({r with q := -1,k:=1},[]):=by simp[AM,hs]
 rw[hfin];clear hfin;replace hI:=Az hI;replace hg:=Az hg;replace hcs:=Az hcs;replace hs:=Az hs;go_enter Tryz.func150,Tryz.ntmps150;go_wp2;go_ret;exact⟨_,rfl,.inl ⟨rfl,_,rfl⟩,Bs (Bs (hI.out) 7 (.int .i64 (-1))) 6 (.int .u32 1),Ar (Ar (BE w (some gi)) 7 _) 6 _⟩
theorem Oe(gi g o:Nat)(r:In)(s0:List UInt8)(cs:Array Value)(w0 w:World)(he:Env w0)(hb0:Below w0.heap.size w0 w)(hgi:w0.heap.size≤gi)(hne:gi≠g)(hI:w.heap[gi]?=some (.cells r.cs 126 (0,0)))(hs:s0≠[110,101])(hg:w.heap[g]?=some (.cells cs 9 (0,0)))(hcs:∀ j,j<[s0].length→cs[o+j]?=some (.string ⟨([s0].getD j []).toArray⟩)) :
  Calls Tryz.prog 150 #[.pointer (some ⟨gi,0,none⟩),.slice (some ⟨g,o,none⟩) 1 1] w fun e w' =>
   ∃ v,e=.returned v∧BZ w' v (AM r [s0]).2∧w'.heap[gi]?=some (.cells (AM r [s0]).1.cs 126 (0,0))∧w.grownBy w' (some gi):=by
 have c0:w.cell? ⟨g,o,none⟩=some (.string ⟨s0.toArray⟩):=(Bc hg o).trans (hcs 0 (by simp));have i6:w.cell? ⟨gi,6,none⟩=some (.int .u32 r.k):=(Bc hI 6).trans rfl;have i7:w.cell? ⟨gi,7,none⟩=some (.int .i64 r.q):=(Bc hI 7).trans rfl;have f6:=Bf hI 6;have f7:=Bf hI 7;have hne':g≠gi:=fun e=>hne e.symm
 have t0:(s0==[110,101])=false:=Bq hs;have hfin:AM r [s0]=({r with q := -1},[]):=by simp[AM,hs]
 rw[hfin];clear hfin;replace hI:=Az hI;replace hg:=Az hg;replace hcs:=Az hcs;replace hs:=Az hs;go_enter Tryz.func150,Tryz.ntmps150;go_wp2;go_ret;exact⟨_,rfl,.inl ⟨rfl,_,rfl⟩,Bs (hI.out) 7 (.int .i64 (-1)),Ar (BE w (some gi)) 7 _⟩
theorem Of(gi g o:Nat)(r:In)(s0 s1:List UInt8)(cs:Array Value)(w0 w:World)(he:Env w0)(hb0:Below w0.heap.size w0 w)(hgi:w0.heap.size≤gi)(hne:gi≠g)(hI:w.heap[gi]?=some (.cells r.cs 126 (0,0)))(hs:s0=[110,101])(hg:w.heap[g]?=some (.cells cs 9 (0,0)))(hcs:∀ j,j<[s0,s1].length→cs[o+j]?=some (.string ⟨([s0,s1].getD j []).toArray⟩))(hl1:s1.length≤4294967280) :
  Calls Tryz.prog 150 #[.pointer (some ⟨gi,0,none⟩),.slice (some ⟨g,o,none⟩) 2 2] w fun e w' =>
   ∃ v,e=.returned v∧BZ w' v (AM r [s0,s1]).2∧w'.heap[gi]?=some (.cells (AM r [s0,s1]).1.cs 126 (0,0))∧w.grownBy w' (some gi):=by
 have c0:w.cell? ⟨g,o,none⟩=some (.string ⟨s0.toArray⟩):=(Bc hg o).trans (hcs 0 (by simp));have c1:w.cell? ⟨g,o+1,none⟩=some (.string ⟨s1.toArray⟩):=(Bc hg (o+1)).trans (hcs 1 (by simp));have i6:w.cell? ⟨gi,6,none⟩=some (.int .u32 r.k):=(Bc hI 6).trans rfl;have i7:w.cell? ⟨gi,7,none⟩=some (.int .i64 r.q):=(Bc hI 7).trans rfl;have f6:=Bf hI 6;have f7:=Bf hI 7;have hne':g≠gi:=fun e=>hne e.symm
 have t0:(s0==[110,101])=true:=beq_iff_eq.2 hs;have hfin:AM r [s0,s1]=({r with q := -1,k:=1,t:=B7 s1},[]):=by simp[AM,hs]
 rw[hfin];clear hfin;replace hI:=Az hI;replace hg:=Az hg;replace hcs:=Az hcs;replace hs:=Az hs;go_enter Tryz.func150,Tryz.ntmps150;have hB1:=Az ((hb0.setCell (p:=⟨gi,7,none⟩) hgi (.int .i64 (-1))).setCell (p:=⟨gi,6,none⟩) hgi (.int .u32 1));go_wp2_with fail
 refine(AT s1 _ hl1 (he.below hB1.out)).mono ?_;rintro e w1 ⟨rfl,hb1⟩;have hI1:=Az (show w1.heap[gi]?=some (.cells (In.cs {r with q := -1,k:=1}) 126 (0,0)) from Bk hb1 (Bs (Bs (hI.out) 7 (.int .i64 (-1))) 6 (.int .u32 1)));have hg1:=Az (Bk hb1 (Ba (Ba (hg.out) hne' _) hne' _));have hr1:=Az (B5 (Ar (Ar (BE w (some gi)) 7 _) 6 _) hb1);have i31:w1.cell? ⟨gi,3,none⟩=some (.int .i64 r.t):=(Bc hI1.out 3).trans rfl;have f31:=Bf hI1.out 3;go_wp2;go_ret;exact⟨_,rfl,.inl ⟨rfl,_,rfl⟩,Bs hI1.out 3 (.int .i64 (B7 s1)),Ar hr1.out 3 _⟩
theorem Og(gi g o:Nat)(r:In)(s0 s1:List UInt8)(cs:Array Value)(w0 w:World)(he:Env w0)(hb0:Below w0.heap.size w0 w)(hgi:w0.heap.size≤gi)(hne:gi≠g)(hI:w.heap[gi]?=some (.cells r.cs 126 (0,0)))(hs:s0≠[110,101])(hg:w.heap[g]?=some (.cells cs 9 (0,0)))(hcs:∀ j,j<[s0,s1].length→cs[o+j]?=some (.string ⟨([s0,s1].getD j []).toArray⟩))(hl1:s1.length≤4294967280) :
  Calls Tryz.prog 150 #[.pointer (some ⟨gi,0,none⟩),.slice (some ⟨g,o,none⟩) 2 2] w fun e w' =>
   ∃ v,e=.returned v∧BZ w' v (AM r [s0,s1]).2∧w'.heap[gi]?=some (.cells (AM r [s0,s1]).1.cs 126 (0,0))∧w.grownBy w' (some gi):=by
 have c0:w.cell? ⟨g,o,none⟩=some (.string ⟨s0.toArray⟩):=(Bc hg o).trans (hcs 0 (by simp));have c1:w.cell? ⟨g,o+1,none⟩=some (.string ⟨s1.toArray⟩):=(Bc hg (o+1)).trans (hcs 1 (by simp));have i6:w.cell? ⟨gi,6,none⟩=some (.int .u32 r.k):=(Bc hI 6).trans rfl;have i7:w.cell? ⟨gi,7,none⟩=some (.int .i64 r.q):=(Bc hI 7).trans rfl;have f6:=Bf hI 6;have f7:=Bf hI 7;have hne':g≠gi:=fun e=>hne e.symm
 have t0:(s0==[110,101])=false:=Bq hs;have hfin:AM r [s0,s1]=({r with q := -1,t:=B7 s1},[]):=by simp[AM,hs]
 rw[hfin];clear hfin;replace hI:=Az hI;replace hg:=Az hg;replace hcs:=Az hcs;replace hs:=Az hs;go_enter Tryz.func150,Tryz.ntmps150;have hB1:=Az (hb0.setCell (p:=⟨gi,7,none⟩) hgi (.int .i64 (-1)));go_wp2_with fail
 refine(AT s1 _ hl1 (he.below hB1.out)).mono ?_;rintro e w1 ⟨rfl,hb1⟩;have hI1:=Az (show w1.heap[gi]?=some (.cells (In.cs {r with q := -1}) 126 (0,0)) from Bk hb1 (Bs (hI.out) 7 (.int .i64 (-1))));have hg1:=Az (Bk hb1 (Ba (hg.out) hne' _));have hr1:=Az (B5 (Ar (BE w (some gi)) 7 _) hb1);have i31:w1.cell? ⟨gi,3,none⟩=some (.int .i64 r.t):=(Bc hI1.out 3).trans rfl;have f31:=Bf hI1.out 3;go_wp2;go_ret;exact⟨_,rfl,.inl ⟨rfl,_,rfl⟩,Bs hI1.out 3 (.int .i64 (B7 s1)),Ar hr1.out 3 _⟩
theorem Oh(gi g o:Nat)(r:In)(s0 s1 s2:List UInt8)(cs:Array Value)(w0 w:World)(he:Env w0)(hb0:Below w0.heap.size w0 w)(hgi:w0.heap.size≤gi)(hne:gi≠g)(hI:w.heap[gi]?=some (.cells r.cs 126 (0,0)))(hs:s0=[110,101])(hg:w.heap[g]?=some (.cells cs 9 (0,0)))(hcs:∀ j,j<[s0,s1,s2].length→cs[o+j]?=some (.string ⟨([s0,s1,s2].getD j []).toArray⟩))(hl1:s1.length≤4294967280) :
  Calls Tryz.prog 150 #[.pointer (some ⟨gi,0,none⟩),.slice (some ⟨g,o,none⟩) 3 3] w fun e w' =>
   ∃ v,e=.returned v∧BZ w' v (AM r [s0,s1,s2]).2∧w'.heap[gi]?=some (.cells (AM r [s0,s1,s2]).1.cs 126 (0,0))∧w.grownBy w' (some gi):=by
 have c0:w.cell? ⟨g,o,none⟩=some (.string ⟨s0.toArray⟩):=(Bc hg o).trans (hcs 0 (by simp));have c1:w.cell? ⟨g,o+1,none⟩=some (.string ⟨s1.toArray⟩):=(Bc hg (o+1)).trans (hcs 1 (by simp));have c2:w.cell? ⟨g,o+2,none⟩=some (.string ⟨s2.toArray⟩):=(Bc hg (o+2)).trans (hcs 2 (by simp));have i6:w.cell? ⟨gi,6,none⟩=some (.int .u32 r.k):=(Bc hI 6).trans rfl;have i7:w.cell? ⟨gi,7,none⟩=some (.int .i64 r.q):=(Bc hI 7).trans rfl;have f6:=Bf hI 6;have f7:=Bf hI 7;have hne':g≠gi:=fun e=>hne e.symm
 have t0:(s0==[110,101])=true:=beq_iff_eq.2 hs;have hfin:AM r [s0,s1,s2]=({r with q := -1,k:=1,t:=B7 s1},[s2]):=by simp[AM,hs]
 rw[hfin];clear hfin;replace hI:=Az hI;replace hg:=Az hg;replace hcs:=Az hcs;replace hs:=Az hs;go_enter Tryz.func150,Tryz.ntmps150;have hB1:=Az ((hb0.setCell (p:=⟨gi,7,none⟩) hgi (.int .i64 (-1))).setCell (p:=⟨gi,6,none⟩) hgi (.int .u32 1));go_wp2_with fail
 refine(AT s1 _ hl1 (he.below hB1.out)).mono ?_;rintro e w1 ⟨rfl,hb1⟩;have hI1:=Az (show w1.heap[gi]?=some (.cells (In.cs {r with q := -1,k:=1}) 126 (0,0)) from Bk hb1 (Bs (Bs (hI.out) 7 (.int .i64 (-1))) 6 (.int .u32 1)));have hg1:=Az (Bk hb1 (Ba (Ba (hg.out) hne' _) hne' _));have hr1:=Az (B5 (Ar (Ar (BE w (some gi)) 7 _) 6 _) hb1);have i31:w1.cell? ⟨gi,3,none⟩=some (.int .i64 r.t):=(Bc hI1.out 3).trans rfl;have f31:=Bf hI1.out 3;go_wp2;go_ret;exact⟨_,rfl,.inr ⟨g,o+2,rfl,_,Ba hg1.out hne' _,fun j hj=>by have:=hcs.out (2+j) (by simp at hj ⊢;omega);rw[←Nat.add_assoc]at this;simpa [Nat.add_comm 2 j]using this⟩,Bs hI1.out 3 (.int .i64 (B7 s1)),Ar hr1.out 3 _⟩
theorem Oi(gi g o:Nat)(r:In)(s0 s1 s2:List UInt8)(cs:Array Value)(w0 w:World)(he:Env w0)(hb0:Below w0.heap.size w0 w)(hgi:w0.heap.size≤gi)(hne:gi≠g)(hI:w.heap[gi]?=some (.cells r.cs 126 (0,0)))(hs:s0≠[110,101])(hg:w.heap[g]?=some (.cells cs 9 (0,0)))(hcs:∀ j,j<[s0,s1,s2].length→cs[o+j]?=some (.string ⟨([s0,s1,s2].getD j []).toArray⟩))(hl1:s1.length≤4294967280) :
  Calls Tryz.prog 150 #[.pointer (some ⟨gi,0,none⟩),.slice (some ⟨g,o,none⟩) 3 3] w fun e w' =>
   ∃ v,e=.returned v∧BZ w' v (AM r [s0,s1,s2]).2∧w'.heap[gi]?=some (.cells (AM r [s0,s1,s2]).1.cs 126 (0,0))∧w.grownBy w' (some gi):=by
 have c0:w.cell? ⟨g,o,none⟩=some (.string ⟨s0.toArray⟩):=(Bc hg o).trans (hcs 0 (by simp));have c1:w.cell? ⟨g,o+1,none⟩=some (.string ⟨s1.toArray⟩):=(Bc hg (o+1)).trans (hcs 1 (by simp));have c2:w.cell? ⟨g,o+2,none⟩=some (.string ⟨s2.toArray⟩):=(Bc hg (o+2)).trans (hcs 2 (by simp));have i6:w.cell? ⟨gi,6,none⟩=some (.int .u32 r.k):=(Bc hI 6).trans rfl;have i7:w.cell? ⟨gi,7,none⟩=some (.int .i64 r.q):=(Bc hI 7).trans rfl;have f6:=Bf hI 6;have f7:=Bf hI 7;have hne':g≠gi:=fun e=>hne e.symm
 have t0:(s0==[110,101])=false:=Bq hs;have hfin:AM r [s0,s1,s2]=({r with q := -1,t:=B7 s1},[s2]):=by simp[AM,hs]
 rw[hfin];clear hfin;replace hI:=Az hI;replace hg:=Az hg;replace hcs:=Az hcs;replace hs:=Az hs;go_enter Tryz.func150,Tryz.ntmps150;have hB1:=Az (hb0.setCell (p:=⟨gi,7,none⟩) hgi (.int .i64 (-1)));go_wp2_with fail
 refine(AT s1 _ hl1 (he.below hB1.out)).mono ?_;rintro e w1 ⟨rfl,hb1⟩;have hI1:=Az (show w1.heap[gi]?=some (.cells (In.cs {r with q := -1}) 126 (0,0)) from Bk hb1 (Bs (hI.out) 7 (.int .i64 (-1))));have hg1:=Az (Bk hb1 (Ba (hg.out) hne' _));have hr1:=Az (B5 (Ar (BE w (some gi)) 7 _) hb1);have i31:w1.cell? ⟨gi,3,none⟩=some (.int .i64 r.t):=(Bc hI1.out 3).trans rfl;have f31:=Bf hI1.out 3;go_wp2;go_ret;exact⟨_,rfl,.inr ⟨g,o+2,rfl,_,Ba hg1.out hne' _,fun j hj=>by have:=hcs.out (2+j) (by simp at hj ⊢;omega);rw[←Nat.add_assoc]at this;simpa [Nat.add_comm 2 j]using this⟩,Bs hI1.out 3 (.int .i64 (B7 s1)),Ar hr1.out 3 _⟩
theorem MZ(gi g o:Nat)(r:In)(s0 s1 s2 s3:List UInt8)(cs:Array Value)(w0 w:World)(he:Env w0)(hb0:Below w0.heap.size w0 w)(hgi:w0.heap.size≤gi)(hne:gi≠g)(hI:w.heap[gi]?=some (.cells r.cs 126 (0,0)))(hs:s0=[110,101])(hs2:s2=[101,108,115,101])(hg:w.heap[g]?=some (.cells cs 9 (0,0)))(hcs:∀ j,j<[s0,s1,s2,s3].length→cs[o+j]?=some (.string ⟨([s0,s1,s2,s3].getD j []).toArray⟩))(hl1:s1.length≤4294967280)(hl3:s3.length≤4294967280) :
  Calls Tryz.prog 150 #[.pointer (some ⟨gi,0,none⟩),.slice (some ⟨g,o,none⟩) 4 4] w fun e w' =>
   ∃ v,e=.returned v∧BZ w' v (AM r [s0,s1,s2,s3]).2∧w'.heap[gi]?=some (.cells (AM r [s0,s1,s2,s3]).1.cs 126 (0,0))∧w.grownBy w' (some gi):=by
 have c0:w.cell? ⟨g,o,none⟩=some (.string ⟨s0.toArray⟩):=(Bc hg o).trans (hcs 0 (by simp));have c1:w.cell? ⟨g,o+1,none⟩=some (.string ⟨s1.toArray⟩):=(Bc hg (o+1)).trans (hcs 1 (by simp));have c2:w.cell? ⟨g,o+2,none⟩=some (.string ⟨s2.toArray⟩):=(Bc hg (o+2)).trans (hcs 2 (by simp));have c3:w.cell? ⟨g,o+3,none⟩=some (.string ⟨s3.toArray⟩):=(Bc hg (o+3)).trans (hcs 3 (by simp));have i6:w.cell? ⟨gi,6,none⟩=some (.int .u32 r.k):=(Bc hI 6).trans rfl;have i7:w.cell? ⟨gi,7,none⟩=some (.int .i64 r.q):=(Bc hI 7).trans rfl;have f6:=Bf hI 6;have f7:=Bf hI 7;have hne':g≠gi:=fun e=>hne e.symm
 have t0:(s0==[110,101])=true:=beq_iff_eq.2 hs;have t2:(s2==[101,108,115,101])=true:=beq_iff_eq.2 hs2;have hfin:AM r [s0,s1,s2,s3]=({r with q:=B7 s3,k:=1,t:=B7 s1},[]):=by simp[AM,hs,hs2]
 rw[hfin];clear hfin;replace hI:=Az hI;replace hg:=Az hg;replace hcs:=Az hcs;replace hs:=Az hs;replace hs2:=Az hs2;go_enter Tryz.func150,Tryz.ntmps150;have hB1:=Az ((hb0.setCell (p:=⟨gi,7,none⟩) hgi (.int .i64 (-1))).setCell (p:=⟨gi,6,none⟩) hgi (.int .u32 1));go_wp2_with fail
 refine(AT s1 _ hl1 (he.below hB1.out)).mono ?_;rintro e w1 ⟨rfl,hb1⟩;have hI1:=Az (show w1.heap[gi]?=some (.cells (In.cs {r with q := -1,k:=1}) 126 (0,0)) from Bk hb1 (Bs (Bs (hI.out) 7 (.int .i64 (-1))) 6 (.int .u32 1)));have hg1:=Az (Bk hb1 (Ba (Ba (hg.out) hne' _) hne' _));have hr1:=Az (B5 (Ar (Ar (BE w (some gi)) 7 _) 6 _) hb1);have i31:w1.cell? ⟨gi,3,none⟩=some (.int .i64 r.t):=(Bc hI1.out 3).trans rfl;have f31:=Bf hI1.out 3;have d2:w1.cell? ⟨g,o+2,none⟩=some (.string ⟨s2.toArray⟩):=(Bc hg1.out (o+2)).trans (hcs.out 2 (by simp));have d3:w1.cell? ⟨g,o+3,none⟩=some (.string ⟨s3.toArray⟩):=(Bc hg1.out (o+3)).trans (hcs.out 3 (by simp));have hB2:=Az ((hB1.out.trans (hb1.mono hB1.out.size)).setCell (p:=⟨gi,3,none⟩) hgi (.int .i64 (B7 s1)));go_wp2_with fail
 refine(AT s3 _ hl3 (he.below hB2.out)).mono ?_;rintro e w2 ⟨rfl,hb2⟩;have hI2:=Az (show w2.heap[gi]?=some (.cells (In.cs {r with q := -1,k:=1,t:=B7 s1}) 126 (0,0)) from Bk hb2 (Bs hI1.out 3 (.int .i64 (B7 s1))));have hr2:=Az (B5 (Ar hr1.out 3 _) hb2);have i72:w2.cell? ⟨gi,7,none⟩=some (.int .i64 (-1)):=(Bc hI2.out 7).trans rfl;have f72:=Bf hI2.out 7;go_wp2;go_ret;exact⟨_,rfl,.inl ⟨rfl,_,rfl⟩,Bs hI2.out 7 (.int .i64 (B7 s3)),Ar hr2.out 7 _⟩
theorem Na(gi g o:Nat)(r:In)(s0 s1 s2 s3:List UInt8)(cs:Array Value)(w0 w:World)(he:Env w0)(hb0:Below w0.heap.size w0 w)(hgi:w0.heap.size≤gi)(hne:gi≠g)(hI:w.heap[gi]?=some (.cells r.cs 126 (0,0)))(hs:s0=[110,101])(hs2:s2≠[101,108,115,101])(hg:w.heap[g]?=some (.cells cs 9 (0,0)))(hcs:∀ j,j<[s0,s1,s2,s3].length→cs[o+j]?=some (.string ⟨([s0,s1,s2,s3].getD j []).toArray⟩))(hl1:s1.length≤4294967280)(hl3:s3.length≤4294967280) :
  Calls Tryz.prog 150 #[.pointer (some ⟨gi,0,none⟩),.slice (some ⟨g,o,none⟩) 4 4] w fun e w' =>
   ∃ v,e=.returned v∧BZ w' v (AM r [s0,s1,s2,s3]).2∧w'.heap[gi]?=some (.cells (AM r [s0,s1,s2,s3]).1.cs 126 (0,0))∧w.grownBy w' (some gi):=by
 have c0:w.cell? ⟨g,o,none⟩=some (.string ⟨s0.toArray⟩):=(Bc hg o).trans (hcs 0 (by simp));have c1:w.cell? ⟨g,o+1,none⟩=some (.string ⟨s1.toArray⟩):=(Bc hg (o+1)).trans (hcs 1 (by simp));have c2:w.cell? ⟨g,o+2,none⟩=some (.string ⟨s2.toArray⟩):=(Bc hg (o+2)).trans (hcs 2 (by simp));have c3:w.cell? ⟨g,o+3,none⟩=some (.string ⟨s3.toArray⟩):=(Bc hg (o+3)).trans (hcs 3 (by simp));have i6:w.cell? ⟨gi,6,none⟩=some (.int .u32 r.k):=(Bc hI 6).trans rfl;have i7:w.cell? ⟨gi,7,none⟩=some (.int .i64 r.q):=(Bc hI 7).trans rfl;have f6:=Bf hI 6;have f7:=Bf hI 7;have hne':g≠gi:=fun e=>hne e.symm
 have t0:(s0==[110,101])=true:=beq_iff_eq.2 hs;have t2:(s2==[101,108,115,101])=false:=Bq hs2;have hfin:AM r [s0,s1,s2,s3]=({r with q := -1,k:=1,t:=B7 s1},[s2,s3]):=by simp[AM,hs,hs2]
 rw[hfin];clear hfin;replace hI:=Az hI;replace hg:=Az hg;replace hcs:=Az hcs;replace hs:=Az hs;replace hs2:=Az hs2;go_enter Tryz.func150,Tryz.ntmps150;have hB1:=Az ((hb0.setCell (p:=⟨gi,7,none⟩) hgi (.int .i64 (-1))).setCell (p:=⟨gi,6,none⟩) hgi (.int .u32 1));go_wp2_with fail
 refine(AT s1 _ hl1 (he.below hB1.out)).mono ?_;rintro e w1 ⟨rfl,hb1⟩;have hI1:=Az (show w1.heap[gi]?=some (.cells (In.cs {r with q := -1,k:=1}) 126 (0,0)) from Bk hb1 (Bs (Bs (hI.out) 7 (.int .i64 (-1))) 6 (.int .u32 1)));have hg1:=Az (Bk hb1 (Ba (Ba (hg.out) hne' _) hne' _));have hr1:=Az (B5 (Ar (Ar (BE w (some gi)) 7 _) 6 _) hb1);have i31:w1.cell? ⟨gi,3,none⟩=some (.int .i64 r.t):=(Bc hI1.out 3).trans rfl;have f31:=Bf hI1.out 3;have d2:w1.cell? ⟨g,o+2,none⟩=some (.string ⟨s2.toArray⟩):=(Bc hg1.out (o+2)).trans (hcs.out 2 (by simp));have d3:w1.cell? ⟨g,o+3,none⟩=some (.string ⟨s3.toArray⟩):=(Bc hg1.out (o+3)).trans (hcs.out 3 (by simp));go_wp2;go_ret;exact⟨_,rfl,.inr ⟨g,o+2,rfl,_,Ba hg1.out hne' _,fun j hj=>by have:=hcs.out (2+j) (by simp at hj ⊢;omega);rw[←Nat.add_assoc]at this;simpa [Nat.add_comm 2 j]using this⟩,Bs hI1.out 3 (.int .i64 (B7 s1)),Ar hr1.out 3 _⟩
theorem Nb(gi g o:Nat)(r:In)(s0 s1 s2 s3:List UInt8)(cs:Array Value)(w0 w:World)(he:Env w0)(hb0:Below w0.heap.size w0 w)(hgi:w0.heap.size≤gi)(hne:gi≠g)(hI:w.heap[gi]?=some (.cells r.cs 126 (0,0)))(hs:s0≠[110,101])(hs2:s2=[101,108,115,101])(hg:w.heap[g]?=some (.cells cs 9 (0,0)))(hcs:∀ j,j<[s0,s1,s2,s3].length→cs[o+j]?=some (.string ⟨([s0,s1,s2,s3].getD j []).toArray⟩))(hl1:s1.length≤4294967280)(hl3:s3.length≤4294967280) :
  Calls Tryz.prog 150 #[.pointer (some ⟨gi,0,none⟩),.slice (some ⟨g,o,none⟩) 4 4] w fun e w' =>
   ∃ v,e=.returned v∧BZ w' v (AM r [s0,s1,s2,s3]).2∧w'.heap[gi]?=some (.cells (AM r [s0,s1,s2,s3]).1.cs 126 (0,0))∧w.grownBy w' (some gi):=by
 have c0:w.cell? ⟨g,o,none⟩=some (.string ⟨s0.toArray⟩):=(Bc hg o).trans (hcs 0 (by simp));have c1:w.cell? ⟨g,o+1,none⟩=some (.string ⟨s1.toArray⟩):=(Bc hg (o+1)).trans (hcs 1 (by simp));have c2:w.cell? ⟨g,o+2,none⟩=some (.string ⟨s2.toArray⟩):=(Bc hg (o+2)).trans (hcs 2 (by simp));have c3:w.cell? ⟨g,o+3,none⟩=some (.string ⟨s3.toArray⟩):=(Bc hg (o+3)).trans (hcs 3 (by simp));have i6:w.cell? ⟨gi,6,none⟩=some (.int .u32 r.k):=(Bc hI 6).trans rfl;have i7:w.cell? ⟨gi,7,none⟩=some (.int .i64 r.q):=(Bc hI 7).trans rfl;have f6:=Bf hI 6;have f7:=Bf hI 7;have hne':g≠gi:=fun e=>hne e.symm
 have t0:(s0==[110,101])=false:=Bq hs;have t2:(s2==[101,108,115,101])=true:=beq_iff_eq.2 hs2;have hfin:AM r [s0,s1,s2,s3]=({r with q:=B7 s3,t:=B7 s1},[]):=by simp[AM,hs,hs2]
 rw[hfin];clear hfin;replace hI:=Az hI;replace hg:=Az hg;replace hcs:=Az hcs;replace hs:=Az hs;replace hs2:=Az hs2;go_enter Tryz.func150,Tryz.ntmps150;have hB1:=Az (hb0.setCell (p:=⟨gi,7,none⟩) hgi (.int .i64 (-1)));go_wp2_with fail
 refine(AT s1 _ hl1 (he.below hB1.out)).mono ?_;rintro e w1 ⟨rfl,hb1⟩;have hI1:=Az (show w1.heap[gi]?=some (.cells (In.cs {r with q := -1}) 126 (0,0)) from Bk hb1 (Bs (hI.out) 7 (.int .i64 (-1))));have hg1:=Az (Bk hb1 (Ba (hg.out) hne' _));have hr1:=Az (B5 (Ar (BE w (some gi)) 7 _) hb1);have i31:w1.cell? ⟨gi,3,none⟩=some (.int .i64 r.t):=(Bc hI1.out 3).trans rfl;have f31:=Bf hI1.out 3;have d2:w1.cell? ⟨g,o+2,none⟩=some (.string ⟨s2.toArray⟩):=(Bc hg1.out (o+2)).trans (hcs.out 2 (by simp));have d3:w1.cell? ⟨g,o+3,none⟩=some (.string ⟨s3.toArray⟩):=(Bc hg1.out (o+3)).trans (hcs.out 3 (by simp));have hB2:=Az ((hB1.out.trans (hb1.mono hB1.out.size)).setCell (p:=⟨gi,3,none⟩) hgi (.int .i64 (B7 s1)));go_wp2_with fail
 refine(AT s3 _ hl3 (he.below hB2.out)).mono ?_;rintro e w2 ⟨rfl,hb2⟩;have hI2:=Az (show w2.heap[gi]?=some (.cells (In.cs {r with q := -1,t:=B7 s1}) 126 (0,0)) from Bk hb2 (Bs hI1.out 3 (.int .i64 (B7 s1))));have hr2:=Az (B5 (Ar hr1.out 3 _) hb2);have i72:w2.cell? ⟨gi,7,none⟩=some (.int .i64 (-1)):=(Bc hI2.out 7).trans rfl;have f72:=Bf hI2.out 7;go_wp2;go_ret;exact⟨_,rfl,.inl ⟨rfl,_,rfl⟩,Bs hI2.out 7 (.int .i64 (B7 s3)),Ar hr2.out 7 _⟩
theorem Nc(gi g o:Nat)(r:In)(s0 s1 s2 s3:List UInt8)(cs:Array Value)(w0 w:World)(he:Env w0)(hb0:Below w0.heap.size w0 w)(hgi:w0.heap.size≤gi)(hne:gi≠g)(hI:w.heap[gi]?=some (.cells r.cs 126 (0,0)))(hs:s0≠[110,101])(hs2:s2≠[101,108,115,101])(hg:w.heap[g]?=some (.cells cs 9 (0,0)))(hcs:∀ j,j<[s0,s1,s2,s3].length→cs[o+j]?=some (.string ⟨([s0,s1,s2,s3].getD j []).toArray⟩))(hl1:s1.length≤4294967280)(hl3:s3.length≤4294967280) :
  Calls Tryz.prog 150 #[.pointer (some ⟨gi,0,none⟩),.slice (some ⟨g,o,none⟩) 4 4] w fun e w' =>
   ∃ v,e=.returned v∧BZ w' v (AM r [s0,s1,s2,s3]).2∧w'.heap[gi]?=some (.cells (AM r [s0,s1,s2,s3]).1.cs 126 (0,0))∧w.grownBy w' (some gi):=by
 have c0:w.cell? ⟨g,o,none⟩=some (.string ⟨s0.toArray⟩):=(Bc hg o).trans (hcs 0 (by simp));have c1:w.cell? ⟨g,o+1,none⟩=some (.string ⟨s1.toArray⟩):=(Bc hg (o+1)).trans (hcs 1 (by simp));have c2:w.cell? ⟨g,o+2,none⟩=some (.string ⟨s2.toArray⟩):=(Bc hg (o+2)).trans (hcs 2 (by simp));have c3:w.cell? ⟨g,o+3,none⟩=some (.string ⟨s3.toArray⟩):=(Bc hg (o+3)).trans (hcs 3 (by simp));have i6:w.cell? ⟨gi,6,none⟩=some (.int .u32 r.k):=(Bc hI 6).trans rfl;have i7:w.cell? ⟨gi,7,none⟩=some (.int .i64 r.q):=(Bc hI 7).trans rfl;have f6:=Bf hI 6;have f7:=Bf hI 7;have hne':g≠gi:=fun e=>hne e.symm
 have t0:(s0==[110,101])=false:=Bq hs;have t2:(s2==[101,108,115,101])=false:=Bq hs2;have hfin:AM r [s0,s1,s2,s3]=({r with q := -1,t:=B7 s1},[s2,s3]):=by simp[AM,hs,hs2]
 rw[hfin];clear hfin;replace hI:=Az hI;replace hg:=Az hg;replace hcs:=Az hcs;replace hs:=Az hs;replace hs2:=Az hs2;go_enter Tryz.func150,Tryz.ntmps150;have hB1:=Az (hb0.setCell (p:=⟨gi,7,none⟩) hgi (.int .i64 (-1)));go_wp2_with fail
 refine(AT s1 _ hl1 (he.below hB1.out)).mono ?_;rintro e w1 ⟨rfl,hb1⟩;have hI1:=Az (show w1.heap[gi]?=some (.cells (In.cs {r with q := -1}) 126 (0,0)) from Bk hb1 (Bs (hI.out) 7 (.int .i64 (-1))));have hg1:=Az (Bk hb1 (Ba (hg.out) hne' _));have hr1:=Az (B5 (Ar (BE w (some gi)) 7 _) hb1);have i31:w1.cell? ⟨gi,3,none⟩=some (.int .i64 r.t):=(Bc hI1.out 3).trans rfl;have f31:=Bf hI1.out 3;have d2:w1.cell? ⟨g,o+2,none⟩=some (.string ⟨s2.toArray⟩):=(Bc hg1.out (o+2)).trans (hcs.out 2 (by simp));have d3:w1.cell? ⟨g,o+3,none⟩=some (.string ⟨s3.toArray⟩):=(Bc hg1.out (o+3)).trans (hcs.out 3 (by simp));go_wp2;go_ret;exact⟨_,rfl,.inr ⟨g,o+2,rfl,_,Ba hg1.out hne' _,fun j hj=>by have:=hcs.out (2+j) (by simp at hj ⊢;omega);rw[←Nat.add_assoc]at this;simpa [Nat.add_comm 2 j]using this⟩,Bs hI1.out 3 (.int .i64 (B7 s1)),Ar hr1.out 3 _⟩
theorem Oj(gi g o:Nat)(r:In)(s0 s1 s2 s3 s4:List UInt8)(cs:Array Value)(w0 w:World)(he:Env w0)(hb0:Below w0.heap.size w0 w)(hgi:w0.heap.size≤gi)(hne:gi≠g)(hI:w.heap[gi]?=some (.cells r.cs 126 (0,0)))(hs:s0=[110,101])(rest:List (List UInt8))(Qu:rest.length≤200000)(hg:w.heap[g]?=some (.cells cs 9 (0,0)))(hcs:∀ j,j<(s0::s1::s2::s3::s4::rest).length→cs[o+j]?=some (.string ⟨((s0::s1::s2::s3::s4::rest).getD j []).toArray⟩))(hl1:s1.length≤4294967280) :
  Calls Tryz.prog 150 #[.pointer (some ⟨gi,0,none⟩),.slice (some ⟨g,o,none⟩) (rest.length+1+1+1+1+1) (rest.length+1+1+1+1+1)] w fun e w' =>
   ∃ v,e=.returned v∧BZ w' v (AM r (s0::s1::s2::s3::s4::rest)).2∧w'.heap[gi]?=some (.cells (AM r (s0::s1::s2::s3::s4::rest)).1.cs 126 (0,0))∧w.grownBy w' (some gi):=by
 have c0:w.cell? ⟨g,o,none⟩=some (.string ⟨s0.toArray⟩):=(Bc hg o).trans (hcs 0 (by simp));have c1:w.cell? ⟨g,o+1,none⟩=some (.string ⟨s1.toArray⟩):=(Bc hg (o+1)).trans (hcs 1 (by simp));have c2:w.cell? ⟨g,o+2,none⟩=some (.string ⟨s2.toArray⟩):=(Bc hg (o+2)).trans (hcs 2 (by simp));have c3:w.cell? ⟨g,o+3,none⟩=some (.string ⟨s3.toArray⟩):=(Bc hg (o+3)).trans (hcs 3 (by simp));have i6:w.cell? ⟨gi,6,none⟩=some (.int .u32 r.k):=(Bc hI 6).trans rfl;have i7:w.cell? ⟨gi,7,none⟩=some (.int .i64 r.q):=(Bc hI 7).trans rfl;have f6:=Bf hI 6;have f7:=Bf hI 7;have hne':g≠gi:=fun e=>hne e.symm
 have t0:(s0==[110,101])=true:=beq_iff_eq.2 hs;have hfin:AM r (s0::s1::s2::s3::s4::rest)=({r with q := -1,k:=1,t:=B7 s1},s2::s3::s4::rest):=by simp[AM,hs]
 rw[hfin];clear hfin;have hmin:(min 2 ((rest.length:Int)+1+1+1+1+1))=2:=by omega
 replace hI:=Az hI;replace hg:=Az hg;replace hcs:=Az hcs;replace hs:=Az hs;go_enter Tryz.func150,Tryz.ntmps150;have hB1:=Az ((hb0.setCell (p:=⟨gi,7,none⟩) hgi (.int .i64 (-1))).setCell (p:=⟨gi,6,none⟩) hgi (.int .u32 1));go_wp2_with fail
 refine(AT s1 _ hl1 (he.below hB1.out)).mono ?_;rintro e w1 ⟨rfl,hb1⟩;have hI1:=Az (show w1.heap[gi]?=some (.cells (In.cs {r with q := -1,k:=1}) 126 (0,0)) from Bk hb1 (Bs (Bs (hI.out) 7 (.int .i64 (-1))) 6 (.int .u32 1)));have hg1:=Az (Bk hb1 (Ba (Ba (hg.out) hne' _) hne' _));have hr1:=Az (B5 (Ar (Ar (BE w (some gi)) 7 _) 6 _) hb1);have i31:w1.cell? ⟨gi,3,none⟩=some (.int .i64 r.t):=(Bc hI1.out 3).trans rfl;have f31:=Bf hI1.out 3;go_wp2;go_ret;exact⟨_,rfl,.inr ⟨g,o+2,rfl,_,Ba hg1.out hne' _,fun j hj=>by have:=hcs.out (2+j) (by simp at hj ⊢;omega);rw[←Nat.add_assoc]at this;simpa [Nat.add_comm 2 j]using this⟩,Bs hI1.out 3 (.int .i64 (B7 s1)),Ar hr1.out 3 _⟩
theorem Ok(gi g o:Nat)(r:In)(s0 s1 s2 s3 s4:List UInt8)(cs:Array Value)(w0 w:World)(he:Env w0)(hb0:Below w0.heap.size w0 w)(hgi:w0.heap.size≤gi)(hne:gi≠g)(hI:w.heap[gi]?=some (.cells r.cs 126 (0,0)))(hs:s0≠[110,101])(rest:List (List UInt8))(Qu:rest.length≤200000)(hg:w.heap[g]?=some (.cells cs 9 (0,0)))(hcs:∀ j,j<(s0::s1::s2::s3::s4::rest).length→cs[o+j]?=some (.string ⟨((s0::s1::s2::s3::s4::rest).getD j []).toArray⟩))(hl1:s1.length≤4294967280) :
  Calls Tryz.prog 150 #[.pointer (some ⟨gi,0,none⟩),.slice (some ⟨g,o,none⟩) (rest.length+1+1+1+1+1) (rest.length+1+1+1+1+1)] w fun e w' =>
   ∃ v,e=.returned v∧BZ w' v (AM r (s0::s1::s2::s3::s4::rest)).2∧w'.heap[gi]?=some (.cells (AM r (s0::s1::s2::s3::s4::rest)).1.cs 126 (0,0))∧w.grownBy w' (some gi):=by
 have c0:w.cell? ⟨g,o,none⟩=some (.string ⟨s0.toArray⟩):=(Bc hg o).trans (hcs 0 (by simp));have c1:w.cell? ⟨g,o+1,none⟩=some (.string ⟨s1.toArray⟩):=(Bc hg (o+1)).trans (hcs 1 (by simp));have c2:w.cell? ⟨g,o+2,none⟩=some (.string ⟨s2.toArray⟩):=(Bc hg (o+2)).trans (hcs 2 (by simp));have c3:w.cell? ⟨g,o+3,none⟩=some (.string ⟨s3.toArray⟩):=(Bc hg (o+3)).trans (hcs 3 (by simp));have i6:w.cell? ⟨gi,6,none⟩=some (.int .u32 r.k):=(Bc hI 6).trans rfl;have i7:w.cell? ⟨gi,7,none⟩=some (.int .i64 r.q):=(Bc hI 7).trans rfl;have f6:=Bf hI 6;have f7:=Bf hI 7;have hne':g≠gi:=fun e=>hne e.symm
 have t0:(s0==[110,101])=false:=Bq hs;have hfin:AM r (s0::s1::s2::s3::s4::rest)=({r with q := -1,t:=B7 s1},s2::s3::s4::rest):=by simp[AM,hs]
 rw[hfin];clear hfin;have hmin:(min 2 ((rest.length:Int)+1+1+1+1+1))=2:=by omega
 replace hI:=Az hI;replace hg:=Az hg;replace hcs:=Az hcs;replace hs:=Az hs;go_enter Tryz.func150,Tryz.ntmps150;have hB1:=Az (hb0.setCell (p:=⟨gi,7,none⟩) hgi (.int .i64 (-1)));go_wp2_with fail
 refine(AT s1 _ hl1 (he.below hB1.out)).mono ?_;rintro e w1 ⟨rfl,hb1⟩;have hI1:=Az (show w1.heap[gi]?=some (.cells (In.cs {r with q := -1}) 126 (0,0)) from Bk hb1 (Bs (hI.out) 7 (.int .i64 (-1))));have hg1:=Az (Bk hb1 (Ba (hg.out) hne' _));have hr1:=Az (B5 (Ar (BE w (some gi)) 7 _) hb1);have i31:w1.cell? ⟨gi,3,none⟩=some (.int .i64 r.t):=(Bc hI1.out 3).trans rfl;have f31:=Bf hI1.out 3;go_wp2;go_ret;exact⟨_,rfl,.inr ⟨g,o+2,rfl,_,Ba hg1.out hne' _,fun j hj=>by have:=hcs.out (2+j) (by simp at hj ⊢;omega);rw[←Nat.add_assoc]at this;simpa [Nat.add_comm 2 j]using this⟩,Bs hI1.out 3 (.int .i64 (B7 s1)),Ar hr1.out 3 _⟩
theorem Kx(gi g o:Nat)(r:In)(ss:List (List UInt8))(cs:Array Value)(w0 w:World)(he:Env w0)(hb0:Below w0.heap.size w0 w)(hgi:w0.heap.size≤gi)(hne:gi≠g)(hI:w.heap[gi]?=some (.cells r.cs 126 (0,0)))
  (hss:ss≠[])(hl:∀ s∈ss,s.length≤4294967280)(hn:ss.length≤200000)(hg:w.heap[g]?=some (.cells cs 9 (0,0)))(hcs:∀ j,j<ss.length→cs[o+j]?=some (.string ⟨(ss.getD j []).toArray⟩)) :
  Calls Tryz.prog 150 #[.pointer (some ⟨gi,0,none⟩),.slice (some ⟨g,o,none⟩) ss.length ss.length] w fun e w' =>
   ∃ v,e=.returned v∧BZ w' v (AM r ss).2∧w'.heap[gi]?=some (.cells (AM r ss).1.cs 126 (0,0))∧w.grownBy w' (some gi):=by
 match ss,hss,hl,hn,hcs with
 |[s0],_,hl,hn,hcs =>
  by_cases h:s0=[110,101]
  ·exact Od gi g o r s0 cs w0 w he hb0 hgi hne hI h hg hcs
  ·exact Oe gi g o r s0 cs w0 w he hb0 hgi hne hI h hg hcs
 |[s0,s1],_,hl,hn,hcs =>
  have h1:=hl s1 (by simp);by_cases h:s0=[110,101]
  ·exact Of gi g o r s0 s1 cs w0 w he hb0 hgi hne hI h hg hcs h1
  ·exact Og gi g o r s0 s1 cs w0 w he hb0 hgi hne hI h hg hcs h1
 |[s0,s1,s2],_,hl,hn,hcs =>
  have h1:=hl s1 (by simp);by_cases h:s0=[110,101]
  ·exact Oh gi g o r s0 s1 s2 cs w0 w he hb0 hgi hne hI h hg hcs h1
  ·exact Oi gi g o r s0 s1 s2 cs w0 w he hb0 hgi hne hI h hg hcs h1
 |[s0,s1,s2,s3],_,hl,hn,hcs =>
  have h1:=hl s1 (by simp);have h3:=hl s3 (by simp);by_cases h2:s2=[101,108,115,101]
  ·by_cases h:s0=[110,101]
   ·exact MZ gi g o r s0 s1 s2 s3 cs w0 w he hb0 hgi hne hI h h2 hg hcs h1 h3
   ·exact Nb gi g o r s0 s1 s2 s3 cs w0 w he hb0 hgi hne hI h h2 hg hcs h1 h3
  ·by_cases h:s0=[110,101]
   ·exact Na gi g o r s0 s1 s2 s3 cs w0 w he hb0 hgi hne hI h h2 hg hcs h1 h3
   ·exact Nc gi g o r s0 s1 s2 s3 cs w0 w he hb0 hgi hne hI h h2 hg hcs h1 h3
 |s0::s1::s2::s3::s4::rest,_,hl,hn,hcs =>
  have h1:=hl s1 (by simp);have hr:rest.length≤200000:=by simp at hn;omega
  by_cases h:s0=[110,101]
  ·exact Oj gi g o r s0 s1 s2 s3 s4 cs w0 w he hb0 hgi hne hI h rest hr hg hcs h1
  ·exact Ok gi g o r s0 s1 s2 s3 s4 cs w0 w he hb0 hgi hne hI h rest hr hg hcs h1
end
end Go.Proofs.YtjjpiefgdggghaaGreatDoor

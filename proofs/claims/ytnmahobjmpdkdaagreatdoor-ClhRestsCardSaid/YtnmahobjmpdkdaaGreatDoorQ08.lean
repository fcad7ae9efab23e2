/- Parts: Number, Wait, Named, Format. -/
import Derived.Test.YtnmahobjmpdkdaaGreatDoorQ02
import Derived.Test.YtnmahobjmpdkdaaGreatDoorQ03
import Derived.Test.YtnmahobjmpdkdaaGreatDoorQ04
import Derived.Lib.AppendIntMem
set_option linter.unusedVariables false
set_option linter.unusedSimpArgs false
set_option maxRecDepth 100000
set_option maxHeartbeats 40000000
namespace Go.Proofs.YtnmahobjmpdkdaaGreatDoor
section
open Go.RowKit Go.Proofs.YtnmahobjmpdkdaaGreatDoorW.PrintWords
theorem Ia(l:List UInt8)(w:World)(hl:l.length≤4294967280) :
  Calls Tryz.prog 122 #[.string ⟨l.toArray⟩,.string ⟨#[114]⟩] w fun e w'=>e=.returned (.string ⟨(FR l).toArray⟩)∧w=w':=by
 cases l with
 |nil =>
  go_enter Tryz.func122,Tryz.ntmps122;go_wp2;go_ret;exact⟨rfl,rfl⟩
 |cons c r =>
  have h1:0≤(r.length:Int):=by omega
  simp at hl;by_cases h:c=114
  ·have ht:(((⟨(c::r).toArray⟩:ByteArray).extract 0 1).toList==[114])=true:=by rw[DR,toList_mk];simp[h]
   have he:(⟨(c::r).toArray⟩:ByteArray).extract 1 (r.length+1)=⟨(FR (c::r)).toArray⟩:=by rw[DR,h];simp[FR]
   replace he:=Az he;clear h;go_enter Tryz.func122,Tryz.ntmps122;go_wp2;go_ret;exact⟨congrArg (fun s=>Ending.returned (.string s)) he.out,rfl⟩
  ·have ht:(((⟨(c::r).toArray⟩:ByteArray).extract 0 1).toList==[114])=false:=by rw[DR,toList_mk];simp[h]
   have he:FR (c::r)=c::r:=by unfold FR;split<;>simp_all
   rw[he];clear h he;go_enter Tryz.func122,Tryz.ntmps122;go_wp2;go_ret;exact⟨rfl,rfl⟩
theorem BA(l:List UInt8)(w:World)(hl:l.length≤4294967280)(he:Env w) :
  Calls Tryz.prog 113 #[.string ⟨l.toArray⟩] w fun e w'=>e=.returned (.int .i64 (Cp l))∧Below w.heap.size w w':=by
 have hlt:=RH l;have hz:(⟨(FR l).toArray⟩:ByteArray).size=(FR l).length:=by simp[ByteArray.size]
 obtain⟨ts,ps,hsy⟩:=he.Z8;obtain⟨tr,pr,hrg⟩:=he.Z9;replace hsy:=Az hsy;replace hrg:=Az hrg;replace hz:=Az hz;cases hn:Lib.atoiAll (FR l) with
 |ok v =>
  have e:Cp l=v:=by unfold Cp;rw[hn]
  rw[e];replace hn:=Az hn;clear e;go_enter Tryz.func113,Tryz.ntmps113;go_wp2_with fail
  refine(Ia _ _ hl).mono ?_;rintro e w' ⟨rfl,rfl⟩;go_wp2_with fail
  refine(Tryz.strconv_Atoi_ok _ (by rw[hz.out];omega) v hn.out _).mono ?_;rintro e w1 ⟨rfl,hw⟩;have hb:Below w.heap.size w w1:=by
   rcases hw with rfl |⟨t,rfl⟩
   ·exact Below.refl _ _
   ·exact Fw (Below.refl _ _) (Nl _) _ _
  clear hw;go_wp2;go_ret;exact⟨rfl,hb⟩
 |range =>
  have e:Cp l=Lib.atoiSat (FR l):=by unfold Cp;rw[hn]
  rw[e];replace hn:=Az hn;clear e;go_enter Tryz.func113,Tryz.ntmps113;go_wp2_with fail
  refine(Ia _ _ hl).mono ?_;rintro e w' ⟨rfl,rfl⟩;go_wp2_with fail
  refine(Tryz.strconv_Atoi_range_var _ (by rw[hz.out];omega) hn.out tr pr _ hrg.out).mono ?_;rintro e w1 ⟨N,rfl,hN,hB,hb⟩;clear hB;go_wp2;go_ret;exact⟨rfl,hb⟩
 |_ =>
  have e:Cp l=0:=by unfold Cp;rw[hn]
  rw[e];replace hn:=Az hn;clear e;go_enter Tryz.func113,Tryz.ntmps113;go_wp2_with fail
  refine(Ia _ _ hl).mono ?_;rintro e w' ⟨rfl,rfl⟩;go_wp2_with fail
  refine(Tryz.strconv_Atoi_syntax_var _ (by rw[hz.out];omega) (fun v h=>by rw[hn.out]at h;cases h) (fun h=>by rw[hn.out]at h;cases h) ts ps _ hsy.out).mono ?_;rintro e w1 ⟨N,rfl,hN,hB,hb⟩;clear hB;go_wp2;go_ret;exact⟨rfl,hb⟩
def Di(w:World)(v:Value)(ss:List (List UInt8)):Prop :=
 (ss=[]∧∃ A,v=.slice A 0 0)∨∃ g o,v=.slice (some ⟨g,o,none⟩) ss.length ss.length∧(∃ cs,w.heap[g]?=some (.cells cs 9 (0,0))∧∀ j,j<ss.length→cs[o+j]?=some (.string ⟨(ss.getD j []).toArray⟩))
theorem AN{w w1:World}{g:Nat}(h:w.grownBy w1 (some g))(o:Nat)(v:Value):w.grownBy (w1.setCell ⟨g,o,none⟩ v) (some g) :=
 ⟨h.os,h.tape,h.output,by rw[World.setCell];simp;exact h.size,fun i hi hne=>(Below.heap_setCell w1 ⟨g,o,none⟩ v i (fun e=>hne (by rw[e]))).trans (h.block i hi hne)⟩
theorem C5(w:World)(row:Option Nat):w.grownBy w row:=⟨rfl,rfl,rfl,Nl _,fun _ _ _=>rfl⟩
theorem Cl{w w1 w2:World}{row:Option Nat}(h:w.grownBy w1 row)(hb:Below w1.heap.size w1 w2):w.grownBy w2 row :=
 ⟨hb.os.trans h.os,hb.tape.trans h.tape,hb.output.trans h.output,Nat.le_trans h.size hb.size,fun i hi hne=>(hb.block i (Nat.lt_of_lt_of_le hi h.size)).trans (h.block i hi hne)⟩
theorem Wk(gi g o:Nat)(r:In)(s0:List UInt8)(cs:Array Value)(w0 w:World)(he:Env w0)(hb0:Below w0.heap.size w0 w)(hgi:w0.heap.size≤gi)(hne:gi≠g)(hI:w.heap[gi]?=some (.cells r.cs 104 (0,0)))(hs:s0=[110,101])(hg:w.heap[g]?=some (.cells cs 9 (0,0)))(hcs:∀ j,j<[s0].length→cs[o+j]?=some (.string ⟨([s0].getD j []).toArray⟩)) :
  Calls Tryz.prog 115 #[.pointer (some ⟨gi,0,none⟩),.slice (some ⟨g,o,none⟩) 1 1] w fun e w' =>
   ∃ v,e=.returned v∧Di w' v (Bp r [s0]).2∧w'.heap[gi]?=some (.cells (Bp r [s0]).1.cs 104 (0,0))∧w.grownBy w' (some gi):=by
 have c0:w.cell? ⟨g,o,none⟩=some (.string ⟨s0.toArray⟩):=(Bc hg o).trans (hcs 0 (by simp));have i6:w.cell? ⟨gi,6,none⟩=some (.int .u32 r.k):=(Bc hI 6).trans rfl;have i7:w.cell? ⟨gi,7,none⟩=some (.int .i64 r.q):=(Bc hI 7).trans rfl;have f6:=Bf hI 6;have f7:=Bf hI 7;have hne':g≠gi:=fun e=>hne e.symm
 have t0:(s0==[110,101])=true:=beq_iff_eq.2 hs;have hfin:Bp r [s0]=({r with q := -1,k:=1},[]):=by simp[Bp,hs]
 rw[hfin];clear hfin;replace hI:=Az hI;replace hg:=Az hg;replace hcs:=Az hcs;replace hs:=Az hs;go_enter Tryz.func115,Tryz.ntmps115;go_wp2;go_ret;exact⟨_,rfl,.inl ⟨rfl,_,rfl⟩,Bs (Bs (hI.out) 7 (.int .i64 (-1))) 6 (.int .u32 1),AN (AN (C5 w (some gi)) 7 _) 6 _⟩
theorem Wl(gi g o:Nat)(r:In)(s0:List UInt8)(cs:Array Value)(w0 w:World)(he:Env w0)(hb0:Below w0.heap.size w0 w)(hgi:w0.heap.size≤gi)(hne:gi≠g)(hI:w.heap[gi]?=some (.cells r.cs 104 (0,0)))(hs:s0≠[110,101])(hg:w.heap[g]?=some (.cells cs 9 (0,0)))(hcs:∀ j,j<[s0].length→cs[o+j]?=some (.string ⟨([s0].getD j []).toArray⟩)) :
  Calls Tryz.prog 115 #[.pointer (some ⟨gi,0,none⟩),.slice (some ⟨g,o,none⟩) 1 1] w fun e w' =>
   ∃ v,e=.returned v∧Di w' v (Bp r [s0]).2∧w'.heap[gi]?=some (.cells (Bp r [s0]).1.cs 104 (0,0))∧w.grownBy w' (some gi):=by
 have c0:w.cell? ⟨g,o,none⟩=some (.string ⟨s0.toArray⟩):=(Bc hg o).trans (hcs 0 (by simp));have i6:w.cell? ⟨gi,6,none⟩=some (.int .u32 r.k):=(Bc hI 6).trans rfl;have i7:w.cell? ⟨gi,7,none⟩=some (.int .i64 r.q):=(Bc hI 7).trans rfl;have f6:=Bf hI 6;have f7:=Bf hI 7;have hne':g≠gi:=fun e=>hne e.symm
 have t0:(s0==[110,101])=false:=Bq hs;have hfin:Bp r [s0]=({r with q := -1},[]):=by simp[Bp,hs]
 rw[hfin];clear hfin;replace hI:=Az hI;replace hg:=Az hg;replace hcs:=Az hcs;replace hs:=Az hs;go_enter Tryz.func115,Tryz.ntmps115;go_wp2;go_ret;exact⟨_,rfl,.inl ⟨rfl,_,rfl⟩,Bs (hI.out) 7 (.int .i64 (-1)),AN (C5 w (some gi)) 7 _⟩
theorem Wm(gi g o:Nat)(r:In)(s0 s1:List UInt8)(cs:Array Value)(w0 w:World)(he:Env w0)(hb0:Below w0.heap.size w0 w)(hgi:w0.heap.size≤gi)(hne:gi≠g)(hI:w.heap[gi]?=some (.cells r.cs 104 (0,0)))(hs:s0=[110,101])(hg:w.heap[g]?=some (.cells cs 9 (0,0)))(hcs:∀ j,j<[s0,s1].length→cs[o+j]?=some (.string ⟨([s0,s1].getD j []).toArray⟩))(hl1:s1.length≤4294967280) :
  Calls Tryz.prog 115 #[.pointer (some ⟨gi,0,none⟩),.slice (some ⟨g,o,none⟩) 2 2] w fun e w' =>
   ∃ v,e=.returned v∧Di w' v (Bp r [s0,s1]).2∧w'.heap[gi]?=some (.cells (Bp r [s0,s1]).1.cs 104 (0,0))∧w.grownBy w' (some gi):=by
 have c0:w.cell? ⟨g,o,none⟩=some (.string ⟨s0.toArray⟩):=(Bc hg o).trans (hcs 0 (by simp));have c1:w.cell? ⟨g,o+1,none⟩=some (.string ⟨s1.toArray⟩):=(Bc hg (o+1)).trans (hcs 1 (by simp));have i6:w.cell? ⟨gi,6,none⟩=some (.int .u32 r.k):=(Bc hI 6).trans rfl;have i7:w.cell? ⟨gi,7,none⟩=some (.int .i64 r.q):=(Bc hI 7).trans rfl;have f6:=Bf hI 6;have f7:=Bf hI 7;have hne':g≠gi:=fun e=>hne e.symm
 have t0:(s0==[110,101])=true:=beq_iff_eq.2 hs;have hfin:Bp r [s0,s1]=({r with q := -1,k:=1,t:=Cp s1},[]):=by simp[Bp,hs]
 rw[hfin];clear hfin;replace hI:=Az hI;replace hg:=Az hg;replace hcs:=Az hcs;replace hs:=Az hs;go_enter Tryz.func115,Tryz.ntmps115;have hB1:=Az ((hb0.setCell (p:=⟨gi,7,none⟩) hgi (.int .i64 (-1))).setCell (p:=⟨gi,6,none⟩) hgi (.int .u32 1));go_wp2_with fail
 refine(BA s1 _ hl1 (he.below hB1.out)).mono ?_;rintro e w1 ⟨rfl,hb1⟩;have hI1:=Az (show w1.heap[gi]?=some (.cells (In.cs {r with q := -1,k:=1}) 104 (0,0)) from Bk hb1 (Bs (Bs (hI.out) 7 (.int .i64 (-1))) 6 (.int .u32 1)));have hg1:=Az (Bk hb1 (Ba (Ba (hg.out) hne' _) hne' _));have hr1:=Az (Cl (AN (AN (C5 w (some gi)) 7 _) 6 _) hb1);have i31:w1.cell? ⟨gi,3,none⟩=some (.int .i64 r.t):=(Bc hI1.out 3).trans rfl;have f31:=Bf hI1.out 3;go_wp2;go_ret;exact⟨_,rfl,.inl ⟨rfl,_,rfl⟩,Bs hI1.out 3 (.int .i64 (Cp s1)),AN hr1.out 3 _⟩
theorem Wn(gi g o:Nat)(r:In)(s0 s1:List UInt8)(cs:Array Value)(w0 w:World)(he:Env w0)(hb0:Below w0.heap.size w0 w)(hgi:w0.heap.size≤gi)(hne:gi≠g)(hI:w.heap[gi]?=some (.cells r.cs 104 (0,0)))(hs:s0≠[110,101])(hg:w.heap[g]?=some (.cells cs 9 (0,0)))(hcs:∀ j,j<[s0,s1].length→cs[o+j]?=some (.string ⟨([s0,s1].getD j []).toArray⟩))(hl1:s1.length≤4294967280) :
  Calls Tryz.prog 115 #[.pointer (some ⟨gi,0,none⟩),.slice (some ⟨g,o,none⟩) 2 2] w fun e w' =>
   ∃ v,e=.returned v∧Di w' v (Bp r [s0,s1]).2∧w'.heap[gi]?=some (.cells (Bp r [s0,s1]).1.cs 104 (0,0))∧w.grownBy w' (some gi):=by
 have c0:w.cell? ⟨g,o,none⟩=some (.string ⟨s0.toArray⟩):=(Bc hg o).trans (hcs 0 (by simp));have c1:w.cell? ⟨g,o+1,none⟩=some (.string ⟨s1.toArray⟩):=(Bc hg (o+1)).trans (hcs 1 (by simp));have i6:w.cell? ⟨gi,6,none⟩=some (.int .u32 r.k):=(Bc hI 6).trans rfl;have i7:w.cell? ⟨gi,7,none⟩=some (.int .i64 r.q):=(Bc hI 7).trans rfl;have f6:=Bf hI 6;have f7:=Bf hI 7;have hne':g≠gi:=fun e=>hne e.symm
 have t0:(s0==[110,101])=false:=Bq hs;have hfin:Bp r [s0,s1]=({r with q := -1,t:=Cp s1},[]):=by simp[Bp,hs]
 rw[hfin];clear hfin;replace hI:=Az hI;replace hg:=Az hg;replace hcs:=Az hcs;replace hs:=Az hs;go_enter Tryz.func115,Tryz.ntmps115;have hB1:=Az (hb0.setCell (p:=⟨gi,7,none⟩) hgi (.int .i64 (-1)));go_wp2_with fail
 refine(BA s1 _ hl1 (he.below hB1.out)).mono ?_;rintro e w1 ⟨rfl,hb1⟩;have hI1:=Az (show w1.heap[gi]?=some (.cells (In.cs {r with q := -1}) 104 (0,0)) from Bk hb1 (Bs (hI.out) 7 (.int .i64 (-1))));have hg1:=Az (Bk hb1 (Ba (hg.out) hne' _));have hr1:=Az (Cl (AN (C5 w (some gi)) 7 _) hb1);have i31:w1.cell? ⟨gi,3,none⟩=some (.int .i64 r.t):=(Bc hI1.out 3).trans rfl;have f31:=Bf hI1.out 3;go_wp2;go_ret;exact⟨_,rfl,.inl ⟨rfl,_,rfl⟩,Bs hI1.out 3 (.int .i64 (Cp s1)),AN hr1.out 3 _⟩
theorem Wo(gi g o:Nat)(r:In)(s0 s1 s2:List UInt8)(cs:Array Value)(w0 w:World)(he:Env w0)(hb0:Below w0.heap.size w0 w)(hgi:w0.heap.size≤gi)(hne:gi≠g)(hI:w.heap[gi]?=some (.cells r.cs 104 (0,0)))(hs:s0=[110,101])(hg:w.heap[g]?=some (.cells cs 9 (0,0)))(hcs:∀ j,j<[s0,s1,s2].length→cs[o+j]?=some (.string ⟨([s0,s1,s2].getD j []).toArray⟩))(hl1:s1.length≤4294967280) :
  Calls Tryz.prog 115 #[.pointer (some ⟨gi,0,none⟩),.slice (some ⟨g,o,none⟩) 3 3] w fun e w' =>
   ∃ v,e=.returned v∧Di w' v (Bp r [s0,s1,s2]).2∧w'.heap[gi]?=some (.cells (Bp r [s0,s1,s2]).1.cs 104 (0,0))∧w.grownBy w' (some gi):=by
 have c0:w.cell? ⟨g,o,none⟩=some (.string ⟨s0.toArray⟩):=(Bc hg o).trans (hcs 0 (by simp));have c1:w.cell? ⟨g,o+1,none⟩=some (.string ⟨s1.toArray⟩):=(Bc hg (o+1)).trans (hcs 1 (by simp));have c2:w.cell? ⟨g,o+2,none⟩=some (.string ⟨s2.toArray⟩):=(Bc hg (o+2)).trans (hcs 2 (by simp));have i6:w.cell? ⟨gi,6,none⟩=some (.int .u32 r.k):=(Bc hI 6).trans rfl;have i7:w.cell? ⟨gi,7,none⟩=some (.int .i64 r.q):=(Bc hI 7).trans rfl;have f6:=Bf hI 6;have f7:=Bf hI 7;have hne':g≠gi:=fun e=>hne e.symm
 have t0:(s0==[110,101])=true:=beq_iff_eq.2 hs;have hfin:Bp r [s0,s1,s2]=({r with q := -1,k:=1,t:=Cp s1},[s2]):=by simp[Bp,hs]
 rw[hfin];clear hfin;replace hI:=Az hI;replace hg:=Az hg;replace hcs:=Az hcs;replace hs:=Az hs;go_enter Tryz.func115,Tryz.ntmps115;have hB1:=Az ((hb0.setCell (p:=⟨gi,7,none⟩) hgi (.int .i64 (-1))).setCell (p:=⟨gi,6,none⟩) hgi (.int .u32 1));go_wp2_with fail
 refine(BA s1 _ hl1 (he.below hB1.out)).mono ?_;rintro e w1 ⟨rfl,hb1⟩;have hI1:=Az (show w1.heap[gi]?=some (.cells (In.cs {r with q := -1,k:=1}) 104 (0,0)) from Bk hb1 (Bs (Bs (hI.out) 7 (.int .i64 (-1))) 6 (.int .u32 1)));have hg1:=Az (Bk hb1 (Ba (Ba (hg.out) hne' _) hne' _));have hr1:=Az (Cl (AN (AN (C5 w (some gi)) 7 _) 6 _) hb1);have i31:w1.cell? ⟨gi,3,none⟩=some (.int .i64 r.t):=(Bc hI1.out 3).trans rfl;have f31:=Bf hI1.out 3;go_wp2;go_ret;exact⟨_,rfl,.inr ⟨g,o+2,rfl,_,Ba hg1.out hne' _,fun j hj=>by have:=hcs.out (2+j) (by simp at hj ⊢;omega);rw[←Nat.add_assoc]at this;simpa [Nat.add_comm 2 j]using this⟩,Bs hI1.out 3 (.int .i64 (Cp s1)),AN hr1.out 3 _⟩
theorem Wp(gi g o:Nat)(r:In)(s0 s1 s2:List UInt8)(cs:Array Value)(w0 w:World)(he:Env w0)(hb0:Below w0.heap.size w0 w)(hgi:w0.heap.size≤gi)(hne:gi≠g)(hI:w.heap[gi]?=some (.cells r.cs 104 (0,0)))(hs:s0≠[110,101])(hg:w.heap[g]?=some (.cells cs 9 (0,0)))(hcs:∀ j,j<[s0,s1,s2].length→cs[o+j]?=some (.string ⟨([s0,s1,s2].getD j []).toArray⟩))(hl1:s1.length≤4294967280) :
  Calls Tryz.prog 115 #[.pointer (some ⟨gi,0,none⟩),.slice (some ⟨g,o,none⟩) 3 3] w fun e w' =>
   ∃ v,e=.returned v∧Di w' v (Bp r [s0,s1,s2]).2∧w'.heap[gi]?=some (.cells (Bp r [s0,s1,s2]).1.cs 104 (0,0))∧w.grownBy w' (some gi):=by
 have c0:w.cell? ⟨g,o,none⟩=some (.string ⟨s0.toArray⟩):=(Bc hg o).trans (hcs 0 (by simp));have c1:w.cell? ⟨g,o+1,none⟩=some (.string ⟨s1.toArray⟩):=(Bc hg (o+1)).trans (hcs 1 (by simp));have c2:w.cell? ⟨g,o+2,none⟩=some (.string ⟨s2.toArray⟩):=(Bc hg (o+2)).trans (hcs 2 (by simp));have i6:w.cell? ⟨gi,6,none⟩=some (.int .u32 r.k):=(Bc hI 6).trans rfl;have i7:w.cell? ⟨gi,7,none⟩=some (.int .i64 r.q):=(Bc hI 7).trans rfl;have f6:=Bf hI 6;have f7:=Bf hI 7;have hne':g≠gi:=fun e=>hne e.symm
 have t0:(s0==[110,101])=false:=Bq hs;have hfin:Bp r [s0,s1,s2]=({r with q := -1,t:=Cp s1},[s2]):=by simp[Bp,hs]
 rw[hfin];clear hfin;replace hI:=Az hI;replace hg:=Az hg;replace hcs:=Az hcs;replace hs:=Az hs;go_enter Tryz.func115,Tryz.ntmps115;have hB1:=Az (hb0.setCell (p:=⟨gi,7,none⟩) hgi (.int .i64 (-1)));go_wp2_with fail
 refine(BA s1 _ hl1 (he.below hB1.out)).mono ?_;rintro e w1 ⟨rfl,hb1⟩;have hI1:=Az (show w1.heap[gi]?=some (.cells (In.cs {r with q := -1}) 104 (0,0)) from Bk hb1 (Bs (hI.out) 7 (.int .i64 (-1))));have hg1:=Az (Bk hb1 (Ba (hg.out) hne' _));have hr1:=Az (Cl (AN (C5 w (some gi)) 7 _) hb1);have i31:w1.cell? ⟨gi,3,none⟩=some (.int .i64 r.t):=(Bc hI1.out 3).trans rfl;have f31:=Bf hI1.out 3;go_wp2;go_ret;exact⟨_,rfl,.inr ⟨g,o+2,rfl,_,Ba hg1.out hne' _,fun j hj=>by have:=hcs.out (2+j) (by simp at hj ⊢;omega);rw[←Nat.add_assoc]at this;simpa [Nat.add_comm 2 j]using this⟩,Bs hI1.out 3 (.int .i64 (Cp s1)),AN hr1.out 3 _⟩
theorem UF(gi g o:Nat)(r:In)(s0 s1 s2 s3:List UInt8)(cs:Array Value)(w0 w:World)(he:Env w0)(hb0:Below w0.heap.size w0 w)(hgi:w0.heap.size≤gi)(hne:gi≠g)(hI:w.heap[gi]?=some (.cells r.cs 104 (0,0)))(hs:s0=[110,101])(hs2:s2=[101,108,115,101])(hg:w.heap[g]?=some (.cells cs 9 (0,0)))(hcs:∀ j,j<[s0,s1,s2,s3].length→cs[o+j]?=some (.string ⟨([s0,s1,s2,s3].getD j []).toArray⟩))(hl1:s1.length≤4294967280)(hl3:s3.length≤4294967280) :
  Calls Tryz.prog 115 #[.pointer (some ⟨gi,0,none⟩),.slice (some ⟨g,o,none⟩) 4 4] w fun e w' =>
   ∃ v,e=.returned v∧Di w' v (Bp r [s0,s1,s2,s3]).2∧w'.heap[gi]?=some (.cells (Bp r [s0,s1,s2,s3]).1.cs 104 (0,0))∧w.grownBy w' (some gi):=by
 have c0:w.cell? ⟨g,o,none⟩=some (.string ⟨s0.toArray⟩):=(Bc hg o).trans (hcs 0 (by simp));have c1:w.cell? ⟨g,o+1,none⟩=some (.string ⟨s1.toArray⟩):=(Bc hg (o+1)).trans (hcs 1 (by simp));have c2:w.cell? ⟨g,o+2,none⟩=some (.string ⟨s2.toArray⟩):=(Bc hg (o+2)).trans (hcs 2 (by simp));have c3:w.cell? ⟨g,o+3,none⟩=some (.string ⟨s3.toArray⟩):=(Bc hg (o+3)).trans (hcs 3 (by simp));have i6:w.cell? ⟨gi,6,none⟩=some (.int .u32 r.k):=(Bc hI 6).trans rfl;have i7:w.cell? ⟨gi,7,none⟩=some (.int .i64 r.q):=(Bc hI 7).trans rfl;have f6:=Bf hI 6;have f7:=Bf hI 7;have hne':g≠gi:=fun e=>hne e.symm
 have t0:(s0==[110,101])=true:=beq_iff_eq.2 hs;have t2:(s2==[101,108,115,101])=true:=beq_iff_eq.2 hs2;have hfin:Bp r [s0,s1,s2,s3]=({r with q:=Cp s3,k:=1,t:=Cp s1},[]):=by simp[Bp,hs,hs2]
 rw[hfin];clear hfin;replace hI:=Az hI;replace hg:=Az hg;replace hcs:=Az hcs;replace hs:=Az hs;replace hs2:=Az hs2;go_enter Tryz.func115,Tryz.ntmps115;have hB1:=Az ((hb0.setCell (p:=⟨gi,7,none⟩) hgi (.int .i64 (-1))).setCell (p:=⟨gi,6,none⟩) hgi (.int .u32 1));go_wp2_with fail
 refine(BA s1 _ hl1 (he.below hB1.out)).mono ?_;rintro e w1 ⟨rfl,hb1⟩;have hI1:=Az (show w1.heap[gi]?=some (.cells (In.cs {r with q := -1,k:=1}) 104 (0,0)) from Bk hb1 (Bs (Bs (hI.out) 7 (.int .i64 (-1))) 6 (.int .u32 1)));have hg1:=Az (Bk hb1 (Ba (Ba (hg.out) hne' _) hne' _));have hr1:=Az (Cl (AN (AN (C5 w (some gi)) 7 _) 6 _) hb1);have i31:w1.cell? ⟨gi,3,none⟩=some (.int .i64 r.t):=(Bc hI1.out 3).trans rfl;have f31:=Bf hI1.out 3;have d2:w1.cell? ⟨g,o+2,none⟩=some (.string ⟨s2.toArray⟩):=(Bc hg1.out (o+2)).trans (hcs.out 2 (by simp));have d3:w1.cell? ⟨g,o+3,none⟩=some (.string ⟨s3.toArray⟩):=(Bc hg1.out (o+3)).trans (hcs.out 3 (by simp));have hB2:=Az ((hB1.out.trans (hb1.mono hB1.out.size)).setCell (p:=⟨gi,3,none⟩) hgi (.int .i64 (Cp s1)));go_wp2_with fail
 refine(BA s3 _ hl3 (he.below hB2.out)).mono ?_;rintro e w2 ⟨rfl,hb2⟩;have hI2:=Az (show w2.heap[gi]?=some (.cells (In.cs {r with q := -1,k:=1,t:=Cp s1}) 104 (0,0)) from Bk hb2 (Bs hI1.out 3 (.int .i64 (Cp s1))));have hr2:=Az (Cl (AN hr1.out 3 _) hb2);have i72:w2.cell? ⟨gi,7,none⟩=some (.int .i64 (-1)):=(Bc hI2.out 7).trans rfl;have f72:=Bf hI2.out 7;go_wp2;go_ret;exact⟨_,rfl,.inl ⟨rfl,_,rfl⟩,Bs hI2.out 7 (.int .i64 (Cp s3)),AN hr2.out 7 _⟩
theorem UG(gi g o:Nat)(r:In)(s0 s1 s2 s3:List UInt8)(cs:Array Value)(w0 w:World)(he:Env w0)(hb0:Below w0.heap.size w0 w)(hgi:w0.heap.size≤gi)(hne:gi≠g)(hI:w.heap[gi]?=some (.cells r.cs 104 (0,0)))(hs:s0=[110,101])(hs2:s2≠[101,108,115,101])(hg:w.heap[g]?=some (.cells cs 9 (0,0)))(hcs:∀ j,j<[s0,s1,s2,s3].length→cs[o+j]?=some (.string ⟨([s0,s1,s2,s3].getD j []).toArray⟩))(hl1:s1.length≤4294967280)(hl3:s3.length≤4294967280) :
  Calls Tryz.prog 115 #[.pointer (some ⟨gi,0,none⟩),.slice (some ⟨g,o,none⟩) 4 4] w fun e w' =>
   ∃ v,e=.returned v∧Di w' v (Bp r [s0,s1,s2,s3]).2∧w'.heap[gi]?=some (.cells (Bp r [s0,s1,s2,s3]).1.cs 104 (0,0))∧w.grownBy w' (some gi):=by
 have c0:w.cell? ⟨g,o,none⟩=some (.string ⟨s0.toArray⟩):=(Bc hg o).trans (hcs 0 (by simp));have c1:w.cell? ⟨g,o+1,none⟩=some (.string ⟨s1.toArray⟩):=(Bc hg (o+1)).trans (hcs 1 (by simp));have c2:w.cell? ⟨g,o+2,none⟩=some (.string ⟨s2.toArray⟩):=(Bc hg (o+2)).trans (hcs 2 (by simp));have c3:w.cell? ⟨g,o+3,none⟩=some (.string ⟨s3.toArray⟩):=(Bc hg (o+3)).trans (hcs 3 (by simp));have i6:w.cell? ⟨gi,6,none⟩=some (.int .u32 r.k):=(Bc hI 6).trans rfl;have i7:w.cell? ⟨gi,7,none⟩=some (.int .i64 r.q):=(Bc hI 7).trans rfl;have f6:=Bf hI 6;have f7:=Bf hI 7;have hne':g≠gi:=fun e=>hne e.symm
 have t0:(s0==[110,101])=true:=beq_iff_eq.2 hs;have t2:(s2==[101,108,115,101])=false:=Bq hs2;have hfin:Bp r [s0,s1,s2,s3]=({r with q := -1,k:=1,t:=Cp s1},[s2,s3]):=by simp[Bp,hs,hs2]
 rw[hfin];clear hfin;replace hI:=Az hI;replace hg:=Az hg;replace hcs:=Az hcs;replace hs:=Az hs;replace hs2:=Az hs2;go_enter Tryz.func115,Tryz.ntmps115;have hB1:=Az ((hb0.setCell (p:=⟨gi,7,none⟩) hgi (.int .i64 (-1))).setCell (p:=⟨gi,6,none⟩) hgi (.int .u32 1));go_wp2_with fail
 refine(BA s1 _ hl1 (he.below hB1.out)).mono ?_;rintro e w1 ⟨rfl,hb1⟩;have hI1:=Az (show w1.heap[gi]?=some (.cells (In.cs {r with q := -1,k:=1}) 104 (0,0)) from Bk hb1 (Bs (Bs (hI.out) 7 (.int .i64 (-1))) 6 (.int .u32 1)));have hg1:=Az (Bk hb1 (Ba (Ba (hg.out) hne' _) hne' _));have hr1:=Az (Cl (AN (AN (C5 w (some gi)) 7 _) 6 _) hb1);have i31:w1.cell? ⟨gi,3,none⟩=some (.int .i64 r.t):=(Bc hI1.out 3).trans rfl;have f31:=Bf hI1.out 3;have d2:w1.cell? ⟨g,o+2,none⟩=some (.string ⟨s2.toArray⟩):=(Bc hg1.out (o+2)).trans (hcs.out 2 (by simp));have d3:w1.cell? ⟨g,o+3,none⟩=some (.string ⟨s3.toArray⟩):=(Bc hg1.out (o+3)).trans (hcs.out 3 (by simp));go_wp2;go_ret;exact⟨_,rfl,.inr ⟨g,o+2,rfl,_,Ba hg1.out hne' _,fun j hj=>by have:=hcs.out (2+j) (by simp at hj ⊢;omega);rw[←Nat.add_assoc]at this;simpa [Nat.add_comm 2 j]using this⟩,Bs hI1.out 3 (.int .i64 (Cp s1)),AN hr1.out 3 _⟩
theorem UH(gi g o:Nat)(r:In)(s0 s1 s2 s3:List UInt8)(cs:Array Value)(w0 w:World)(he:Env w0)(hb0:Below w0.heap.size w0 w)(hgi:w0.heap.size≤gi)(hne:gi≠g)(hI:w.heap[gi]?=some (.cells r.cs 104 (0,0)))(hs:s0≠[110,101])(hs2:s2=[101,108,115,101])(hg:w.heap[g]?=some (.cells cs 9 (0,0)))(hcs:∀ j,j<[s0,s1,s2,s3].length→cs[o+j]?=some (.string ⟨([s0,s1,s2,s3].getD j []).toArray⟩))(hl1:s1.length≤4294967280)(hl3:s3.length≤4294967280) :
  Calls Tryz.prog 115 #[.pointer (some ⟨gi,0,none⟩),.slice (some ⟨g,o,none⟩) 4 4] w fun e w' =>
   ∃ v,e=.returned v∧Di w' v (Bp r [s0,s1,s2,s3]).2∧w'.heap[gi]?=some (.cells (Bp r [s0,s1,s2,s3]).1.cs 104 (0,0))∧w.grownBy w' (some gi):=by
 have c0:w.cell? ⟨g,o,none⟩=some (.string ⟨s0.toArray⟩):=(Bc hg o).trans (hcs 0 (by simp));have c1:w.cell? ⟨g,o+1,none⟩=some (.string ⟨s1.toArray⟩):=(Bc hg (o+1)).trans (hcs 1 (by simp));have c2:w.cell? ⟨g,o+2,none⟩=some (.string ⟨s2.toArray⟩):=(Bc hg (o+2)).trans (hcs 2 (by simp));have c3:w.cell? ⟨g,o+3,none⟩=some (.string ⟨s3.toArray⟩):=(Bc hg (o+3)).trans (hcs 3 (by simp));have i6:w.cell? ⟨gi,6,none⟩=some (.int .u32 r.k):=(Bc hI 6).trans rfl;have i7:w.cell? ⟨gi,7,none⟩=some (.int .i64 r.q):=(Bc hI 7).trans rfl;have f6:=Bf hI 6;have f7:=Bf hI 7;have hne':g≠gi:=fun e=>hne e.symm
 have t0:(s0==[110,101])=false:=Bq hs;have t2:(s2==[101,108,115,101])=true:=beq_iff_eq.2 hs2;have hfin:Bp r [s0,s1,s2,s3]=({r with q:=Cp s3,t:=Cp s1},[]):=by simp[Bp,hs,hs2]
 rw[hfin];clear hfin;replace hI:=Az hI;replace hg:=Az hg;replace hcs:=Az hcs;replace hs:=Az hs;replace hs2:=Az hs2;go_enter Tryz.func115,Tryz.ntmps115;have hB1:=Az (hb0.setCell (p:=⟨gi,7,none⟩) hgi (.int .i64 (-1)));go_wp2_with fail
 refine(BA s1 _ hl1 (he.below hB1.out)).mono ?_;rintro e w1 ⟨rfl,hb1⟩;have hI1:=Az (show w1.heap[gi]?=some (.cells (In.cs {r with q := -1}) 104 (0,0)) from Bk hb1 (Bs (hI.out) 7 (.int .i64 (-1))));have hg1:=Az (Bk hb1 (Ba (hg.out) hne' _));have hr1:=Az (Cl (AN (C5 w (some gi)) 7 _) hb1);have i31:w1.cell? ⟨gi,3,none⟩=some (.int .i64 r.t):=(Bc hI1.out 3).trans rfl;have f31:=Bf hI1.out 3;have d2:w1.cell? ⟨g,o+2,none⟩=some (.string ⟨s2.toArray⟩):=(Bc hg1.out (o+2)).trans (hcs.out 2 (by simp));have d3:w1.cell? ⟨g,o+3,none⟩=some (.string ⟨s3.toArray⟩):=(Bc hg1.out (o+3)).trans (hcs.out 3 (by simp));have hB2:=Az ((hB1.out.trans (hb1.mono hB1.out.size)).setCell (p:=⟨gi,3,none⟩) hgi (.int .i64 (Cp s1)));go_wp2_with fail
 refine(BA s3 _ hl3 (he.below hB2.out)).mono ?_;rintro e w2 ⟨rfl,hb2⟩;have hI2:=Az (show w2.heap[gi]?=some (.cells (In.cs {r with q := -1,t:=Cp s1}) 104 (0,0)) from Bk hb2 (Bs hI1.out 3 (.int .i64 (Cp s1))));have hr2:=Az (Cl (AN hr1.out 3 _) hb2);have i72:w2.cell? ⟨gi,7,none⟩=some (.int .i64 (-1)):=(Bc hI2.out 7).trans rfl;have f72:=Bf hI2.out 7;go_wp2;go_ret;exact⟨_,rfl,.inl ⟨rfl,_,rfl⟩,Bs hI2.out 7 (.int .i64 (Cp s3)),AN hr2.out 7 _⟩
theorem UI(gi g o:Nat)(r:In)(s0 s1 s2 s3:List UInt8)(cs:Array Value)(w0 w:World)(he:Env w0)(hb0:Below w0.heap.size w0 w)(hgi:w0.heap.size≤gi)(hne:gi≠g)(hI:w.heap[gi]?=some (.cells r.cs 104 (0,0)))(hs:s0≠[110,101])(hs2:s2≠[101,108,115,101])(hg:w.heap[g]?=some (.cells cs 9 (0,0)))(hcs:∀ j,j<[s0,s1,s2,s3].length→cs[o+j]?=some (.string ⟨([s0,s1,s2,s3].getD j []).toArray⟩))(hl1:s1.length≤4294967280)(hl3:s3.length≤4294967280) :
  Calls Tryz.prog 115 #[.pointer (some ⟨gi,0,none⟩),.slice (some ⟨g,o,none⟩) 4 4] w fun e w' =>
   ∃ v,e=.returned v∧Di w' v (Bp r [s0,s1,s2,s3]).2∧w'.heap[gi]?=some (.cells (Bp r [s0,s1,s2,s3]).1.cs 104 (0,0))∧w.grownBy w' (some gi):=by
 have c0:w.cell? ⟨g,o,none⟩=some (.string ⟨s0.toArray⟩):=(Bc hg o).trans (hcs 0 (by simp));have c1:w.cell? ⟨g,o+1,none⟩=some (.string ⟨s1.toArray⟩):=(Bc hg (o+1)).trans (hcs 1 (by simp));have c2:w.cell? ⟨g,o+2,none⟩=some (.string ⟨s2.toArray⟩):=(Bc hg (o+2)).trans (hcs 2 (by simp));have c3:w.cell? ⟨g,o+3,none⟩=some (.string ⟨s3.toArray⟩):=(Bc hg (o+3)).trans (hcs 3 (by simp));have i6:w.cell? ⟨gi,6,none⟩=some (.int .u32 r.k):=(Bc hI 6).trans rfl;have i7:w.cell? ⟨gi,7,none⟩=some (.int .i64 r.q):=(Bc hI 7).trans rfl;have f6:=Bf hI 6;have f7:=Bf hI 7;have hne':g≠gi:=fun e=>hne e.symm
 have t0:(s0==[110,101])=false:=Bq hs;have t2:(s2==[101,108,115,101])=false:=Bq hs2;have hfin:Bp r [s0,s1,s2,s3]=({r with q := -1,t:=Cp s1},[s2,s3]):=by simp[Bp,hs,hs2]
 rw[hfin];clear hfin;replace hI:=Az hI;replace hg:=Az hg;replace hcs:=Az hcs;replace hs:=Az hs;replace hs2:=Az hs2;go_enter Tryz.func115,Tryz.ntmps115;have hB1:=Az (hb0.setCell (p:=⟨gi,7,none⟩) hgi (.int .i64 (-1)));go_wp2_with fail
 refine(BA s1 _ hl1 (he.below hB1.out)).mono ?_;rintro e w1 ⟨rfl,hb1⟩;have hI1:=Az (show w1.heap[gi]?=some (.cells (In.cs {r with q := -1}) 104 (0,0)) from Bk hb1 (Bs (hI.out) 7 (.int .i64 (-1))));have hg1:=Az (Bk hb1 (Ba (hg.out) hne' _));have hr1:=Az (Cl (AN (C5 w (some gi)) 7 _) hb1);have i31:w1.cell? ⟨gi,3,none⟩=some (.int .i64 r.t):=(Bc hI1.out 3).trans rfl;have f31:=Bf hI1.out 3;have d2:w1.cell? ⟨g,o+2,none⟩=some (.string ⟨s2.toArray⟩):=(Bc hg1.out (o+2)).trans (hcs.out 2 (by simp));have d3:w1.cell? ⟨g,o+3,none⟩=some (.string ⟨s3.toArray⟩):=(Bc hg1.out (o+3)).trans (hcs.out 3 (by simp));go_wp2;go_ret;exact⟨_,rfl,.inr ⟨g,o+2,rfl,_,Ba hg1.out hne' _,fun j hj=>by have:=hcs.out (2+j) (by simp at hj ⊢;omega);rw[←Nat.add_assoc]at this;simpa [Nat.add_comm 2 j]using this⟩,Bs hI1.out 3 (.int .i64 (Cp s1)),AN hr1.out 3 _⟩
theorem Wq(gi g o:Nat)(r:In)(s0 s1 s2 s3 s4:List UInt8)(cs:Array Value)(w0 w:World)(he:Env w0)(hb0:Below w0.heap.size w0 w)(hgi:w0.heap.size≤gi)(hne:gi≠g)(hI:w.heap[gi]?=some (.cells r.cs 104 (0,0)))(hs:s0=[110,101])(rest:List (List UInt8))(JJ:rest.length≤200000)(hg:w.heap[g]?=some (.cells cs 9 (0,0)))(hcs:∀ j,j<(s0::s1::s2::s3::s4::rest).length→cs[o+j]?=some (.string ⟨((s0::s1::s2::s3::s4::rest).getD j []).toArray⟩))(hl1:s1.length≤4294967280) :
  Calls Tryz.prog 115 #[.pointer (some ⟨gi,0,none⟩),.slice (some ⟨g,o,none⟩) (rest.length+1+1+1+1+1) (rest.length+1+1+1+1+1)] w fun e w' =>
   ∃ v,e=.returned v∧Di w' v (Bp r (s0::s1::s2::s3::s4::rest)).2∧w'.heap[gi]?=some (.cells (Bp r (s0::s1::s2::s3::s4::rest)).1.cs 104 (0,0))∧w.grownBy w' (some gi):=by
 have c0:w.cell? ⟨g,o,none⟩=some (.string ⟨s0.toArray⟩):=(Bc hg o).trans (hcs 0 (by simp));have c1:w.cell? ⟨g,o+1,none⟩=some (.string ⟨s1.toArray⟩):=(Bc hg (o+1)).trans (hcs 1 (by simp));have c2:w.cell? ⟨g,o+2,none⟩=some (.string ⟨s2.toArray⟩):=(Bc hg (o+2)).trans (hcs 2 (by simp));have c3:w.cell? ⟨g,o+3,none⟩=some (.string ⟨s3.toArray⟩):=(Bc hg (o+3)).trans (hcs 3 (by simp));have i6:w.cell? ⟨gi,6,none⟩=some (.int .u32 r.k):=(Bc hI 6).trans rfl;have i7:w.cell? ⟨gi,7,none⟩=some (.int .i64 r.q):=(Bc hI 7).trans rfl;have f6:=Bf hI 6;have f7:=Bf hI 7;have hne':g≠gi:=fun e=>hne e.symm
 have t0:(s0==[110,101])=true:=beq_iff_eq.2 hs;have hfin:Bp r (s0::s1::s2::s3::s4::rest)=({r with q := -1,k:=1,t:=Cp s1},s2::s3::s4::rest):=by simp[Bp,hs]
 rw[hfin];clear hfin;have hmin:(min 2 ((rest.length:Int)+1+1+1+1+1))=2:=by omega
 replace hI:=Az hI;replace hg:=Az hg;replace hcs:=Az hcs;replace hs:=Az hs;go_enter Tryz.func115,Tryz.ntmps115;have hB1:=Az ((hb0.setCell (p:=⟨gi,7,none⟩) hgi (.int .i64 (-1))).setCell (p:=⟨gi,6,none⟩) hgi (.int .u32 1));go_wp2_with fail
 refine(BA s1 _ hl1 (he.below hB1.out)).mono ?_;rintro e w1 ⟨rfl,hb1⟩;have hI1:=Az (show w1.heap[gi]?=some (.cells (In.cs {r with q := -1,k:=1}) 104 (0,0)) from Bk hb1 (Bs (Bs (hI.out) 7 (.int .i64 (-1))) 6 (.int .u32 1)));have hg1:=Az (Bk hb1 (Ba (Ba (hg.out) hne' _) hne' _));have hr1:=Az (Cl (AN (AN (C5 w (some gi)) 7 _) 6 _) hb1);have i31:w1.cell? ⟨gi,3,none⟩=some (.int .i64 r.t):=(Bc hI1.out 3).trans rfl;have f31:=Bf hI1.out 3;go_wp2;go_ret;exact⟨_,rfl,.inr ⟨g,o+2,rfl,_,Ba hg1.out hne' _,fun j hj=>by have:=hcs.out (2+j) (by simp at hj ⊢;omega);rw[←Nat.add_assoc]at this;simpa [Nat.add_comm 2 j]using this⟩,Bs hI1.out 3 (.int .i64 (Cp s1)),AN hr1.out 3 _⟩
theorem Wr(gi g o:Nat)(r:In)(s0 s1 s2 s3 s4:List UInt8)(cs:Array Value)(w0 w:World)(he:Env w0)(hb0:Below w0.heap.size w0 w)(hgi:w0.heap.size≤gi)(hne:gi≠g)(hI:w.heap[gi]?=some (.cells r.cs 104 (0,0)))(hs:s0≠[110,101])(rest:List (List UInt8))(JJ:rest.length≤200000)(hg:w.heap[g]?=some (.cells cs 9 (0,0)))(hcs:∀ j,j<(s0::s1::s2::s3::s4::rest).length→cs[o+j]?=some (.string ⟨((s0::s1::s2::s3::s4::rest).getD j []).toArray⟩))(hl1:s1.length≤4294967280) :
  Calls Tryz.prog 115 #[.pointer (some ⟨gi,0,none⟩),.slice (some ⟨g,o,none⟩) (rest.length+1+1+1+1+1) (rest.length+1+1+1+1+1)] w fun e w' =>
   ∃ v,e=.returned v∧Di w' v (Bp r (s0::s1::s2::s3::s4::rest)).2∧w'.heap[gi]?=some (.cells (Bp r (s0::s1::s2::s3::s4::rest)).1.cs 104 (0,0))∧w.grownBy w' (some gi):=by
 have c0:w.cell? ⟨g,o,none⟩=some (.string ⟨s0.toArray⟩):=(Bc hg o).trans (hcs 0 (by simp));have c1:w.cell? ⟨g,o+1,none⟩=some (.string ⟨s1.toArray⟩):=(Bc hg (o+1)).trans (hcs 1 (by simp));have c2:w.cell? ⟨g,o+2,none⟩=some (.string ⟨s2.toArray⟩):=(Bc hg (o+2)).trans (hcs 2 (by simp));have c3:w.cell? ⟨g,o+3,none⟩=some (.string ⟨s3.toArray⟩):=(Bc hg (o+3)).trans (hcs 3 (by simp));have i6:w.cell? ⟨gi,6,none⟩=some (.int .u32 r.k):=(Bc hI 6).trans rfl;have i7:w.cell? ⟨gi,7,none⟩=some (.int .i64 r.q):=(Bc hI 7).trans rfl;have f6:=Bf hI 6;have f7:=Bf hI 7;have hne':g≠gi:=fun e=>hne e.symm
 have t0:(s0==[110,101])=false:=Bq hs;have hfin:Bp r (s0::s1::s2::s3::s4::rest)=({r with q := -1,t:=Cp s1},s2::s3::s4::rest):=by simp[Bp,hs]
 rw[hfin];clear hfin;have hmin:(min 2 ((rest.length:Int)+1+1+1+1+1))=2:=by omega
 replace hI:=Az hI;replace hg:=Az hg;replace hcs:=Az hcs;replace hs:=Az hs;go_enter Tryz.func115,Tryz.ntmps115;have hB1:=Az (hb0.setCell (p:=⟨gi,7,none⟩) hgi (.int .i64 (-1)));go_wp2_with fail
 refine(BA s1 _ hl1 (he.below hB1.out)).mono ?_;rintro e w1 ⟨rfl,hb1⟩;have hI1:=Az (show w1.heap[gi]?=some (.cells (In.cs {r with q := -1}) 104 (0,0)) from Bk hb1 (Bs (hI.out) 7 (.int .i64 (-1))));have hg1:=Az (Bk hb1 (Ba (hg.out) hne' _));have hr1:=Az (Cl (AN (C5 w (some gi)) 7 _) hb1);have i31:w1.cell? ⟨gi,3,none⟩=some (.int .i64 r.t):=(Bc hI1.out 3).trans rfl;have f31:=Bf hI1.out 3;go_wp2;go_ret;exact⟨_,rfl,.inr ⟨g,o+2,rfl,_,Ba hg1.out hne' _,fun j hj=>by have:=hcs.out (2+j) (by simp at hj ⊢;omega);rw[←Nat.add_assoc]at this;simpa [Nat.add_comm 2 j]using this⟩,Bs hI1.out 3 (.int .i64 (Cp s1)),AN hr1.out 3 _⟩
theorem Ql(gi g o:Nat)(r:In)(ss:List (List UInt8))(cs:Array Value)(w0 w:World)(he:Env w0)(hb0:Below w0.heap.size w0 w)(hgi:w0.heap.size≤gi)(hne:gi≠g)(hI:w.heap[gi]?=some (.cells r.cs 104 (0,0)))
  (hss:ss≠[])(hl:∀ s∈ss,s.length≤4294967280)(hn:ss.length≤200000)(hg:w.heap[g]?=some (.cells cs 9 (0,0)))(hcs:∀ j,j<ss.length→cs[o+j]?=some (.string ⟨(ss.getD j []).toArray⟩)) :
  Calls Tryz.prog 115 #[.pointer (some ⟨gi,0,none⟩),.slice (some ⟨g,o,none⟩) ss.length ss.length] w fun e w' =>
   ∃ v,e=.returned v∧Di w' v (Bp r ss).2∧w'.heap[gi]?=some (.cells (Bp r ss).1.cs 104 (0,0))∧w.grownBy w' (some gi):=by
 match ss,hss,hl,hn,hcs with
 |[s0],_,hl,hn,hcs =>
  by_cases h:s0=[110,101]
  ·exact Wk gi g o r s0 cs w0 w he hb0 hgi hne hI h hg hcs
  ·exact Wl gi g o r s0 cs w0 w he hb0 hgi hne hI h hg hcs
 |[s0,s1],_,hl,hn,hcs =>
  have h1:=hl s1 (by simp);by_cases h:s0=[110,101]
  ·exact Wm gi g o r s0 s1 cs w0 w he hb0 hgi hne hI h hg hcs h1
  ·exact Wn gi g o r s0 s1 cs w0 w he hb0 hgi hne hI h hg hcs h1
 |[s0,s1,s2],_,hl,hn,hcs =>
  have h1:=hl s1 (by simp);by_cases h:s0=[110,101]
  ·exact Wo gi g o r s0 s1 s2 cs w0 w he hb0 hgi hne hI h hg hcs h1
  ·exact Wp gi g o r s0 s1 s2 cs w0 w he hb0 hgi hne hI h hg hcs h1
 |[s0,s1,s2,s3],_,hl,hn,hcs =>
  have h1:=hl s1 (by simp);have h3:=hl s3 (by simp);by_cases h2:s2=[101,108,115,101]
  ·by_cases h:s0=[110,101]
   ·exact UF gi g o r s0 s1 s2 s3 cs w0 w he hb0 hgi hne hI h h2 hg hcs h1 h3
   ·exact UH gi g o r s0 s1 s2 s3 cs w0 w he hb0 hgi hne hI h h2 hg hcs h1 h3
  ·by_cases h:s0=[110,101]
   ·exact UG gi g o r s0 s1 s2 s3 cs w0 w he hb0 hgi hne hI h h2 hg hcs h1 h3
   ·exact UI gi g o r s0 s1 s2 s3 cs w0 w he hb0 hgi hne hI h h2 hg hcs h1 h3
 |s0::s1::s2::s3::s4::rest,_,hl,hn,hcs =>
  have h1:=hl s1 (by simp);have hr:rest.length≤200000:=by simp at hn;omega
  by_cases h:s0=[110,101]
  ·exact Wq gi g o r s0 s1 s2 s3 s4 cs w0 w he hb0 hgi hne hI h rest hr hg hcs h1
  ·exact Wr gi g o r s0 s1 s2 s3 s4 cs w0 w he hb0 hgi hne hI h rest hr hg hcs h1
theorem ON(l:List UInt8)(w:World) :
  Calls Tryz.prog 111 #[.string ⟨l.toArray⟩] w fun e w'=>e=.returned (.int .i64 (IV l))∧Below w.heap.size w w':=by
 generalize hf:IV l=fin;have HF:=Az (show It l 23 1=fin from hf);clear hf;go_enter Tryz.func111,Tryz.ntmps111;go_wp2;go_loopw [3] (fun v wr=>∃ n:Nat,v=.int .i64 (24-n)∧n≤23∧Af (It l n (24-n)=fin)∧Af (Below w.heap.size w wr)) (fun v wr=>(24-(intOf v)).toNat)
 case atStart=>exact⟨23,rfl,Nl _,HF,⟨Below.refl _ _⟩⟩
 case round =>
  obtain⟨n,rfl,hn,hG,hB⟩:=hrel;cases n with
  |zero =>
   have hfin:(0:Int)=fin:=hG.out;replace hfin:=Az hfin;go_wp2;go_ret;exact⟨Rb hfin.out,hB.out⟩
  |succ n =>
   have hle:(24-((n+1:Nat):Int))≤23:=by omega
   have hz:=hB.out.size;have hst:fin=if Aj (24-((n+1:Nat):Int))=l∧l≠[] then (24-((n+1:Nat):Int)) else It l n (24-((n+1:Nat):Int)+1):=hG.out.symm
   have hnx:(24-((n+1:Nat):Int)+1)=24-(n:Int):=by omega
   generalize hop:(24-((n+1:Nat):Int))=op at hle hst hnx ⊢;have hop':op≤23∧0≤op:=by omega
   replace hop:=Az hop;replace hnx:=Az hnx;obtain⟨ho1,ho2⟩:=hop';clear hG;replace hst:=Az hst;go_wp2_with fail
   refine(GR _ _).mono ?_;rintro e w1 ⟨rfl,hb⟩;go_wp2_with fail
   ·have h1:Aj op=l:=by assumption
    have h2:(!l.isEmpty)=true:=by assumption
    go_ret;exact⟨Rb (hst.out.trans (if_pos ⟨h1,by intro e;rw[e]at h2;simp at h2⟩)).symm,((hB.out.trans (hb.mono hz)).alloc (Nat.le_trans hz hb.size) _)⟩
   ·have h1:Aj op=l:=by assumption
    have h2:(!l.isEmpty)=false:=by assumption
    exact⟨⟨n,by rw[hnx.out],by omega,⟨by rw[←hnx.out];exact(hst.out.trans (if_neg (fun h=>by rw[Bool.not_eq_false']at h2;exact h.2 (List.isEmpty_iff.1 h2)))).symm⟩,⟨((hB.out.trans (hb.mono hz)).alloc (Nat.le_trans hz hb.size) _)⟩⟩,by simp[intOf];omega⟩
   ·have h1:¬Aj op=l:=by assumption
    exact⟨⟨n,by rw[hnx.out],by omega,⟨by rw[←hnx.out];exact(hst.out.trans (if_neg (fun h=>h1 h.1))).symm⟩,⟨((hB.out.trans (hb.mono hz)).alloc (Nat.le_trans hz hb.size) _)⟩⟩,by simp[intOf];omega⟩
end
section
open Go.RowKit Go.Proofs.YtnmahobjmpdkdaaGreatDoorW.PrintWords Go.Shelf Go.Sort
theorem below_grow(w:World)(os:Array Obj):Below w.heap.size w (grow w os) :=
 ⟨rfl,rfl,rfl,by simp[grow],fun i hi=>by simp[grow,Array.getElem?_append,hi]⟩
theorem JE{w w':World}(h:∃ k os,w'=grow (w.drewN k) os):Below w.heap.size w w':=by
 obtain⟨k,os,rfl⟩:=h;exact KJ (Au (Below.refl w.heap.size w) k) (Nl _) (below_grow (w.drewN k) os)
theorem NG(u:Nat)(hu:u≤4294967295)(w:World)(he:Env w) :
  Calls Tryz.prog 151 #[.int .u64 u,.int .i64 10] w fun e w'=>e=.returned (.string ⟨(Lib.decDigits u).toArray⟩)∧Below w.heap.size w w':=by
 by_cases hs:u<100
 ·go_enter Tryz.func151,Tryz.ntmps151;go_wp2_with fail
  refine(Tryz.internal_strconv_small u hs _).mono ?_;rintro e w' ⟨rfl,rfl⟩;go_wp2;go_ret;exact⟨rfl,Below.refl _ _⟩
 ·have hu1:1≤u:=by omega
  have hu64:u<18446744073709551616:=by omega
  have hnd20:Lib.nDigits u≤20:=by have:=Lib.numDigits_eq u hu1 hu64;split at this<;>omega
  have hb3:Lib.nDigits u≤23:=by omega
  have hal:Tryz.prog.arrayLen 209=24:=by kernel_rfl
  have hsl1:∀ W,(Instr.sliceAt 209 (.pointer (some ⟨w.heap.size,0,none⟩)) none (some (.int .i64 (Lib.nDigits u:Int))) none).run Tryz.prog W=.ok (.slice (some ⟨w.heap.size,0,none⟩) (Lib.nDigits u) 24) W:=fun W=>by
   rw[run_sliceAt_array_h W 209 ⟨w.heap.size,0,none⟩ (by kernel_rfl) .i64 (Lib.nDigits u:Int) (by omega) (by rw[hal];omega)];go_simp
  have hH0:=Lib.holds_zero0 w 209 (Lib.nDigits u) (by omega);have hfmt:=Tryz.internal_strconv_formatBase10 w.heap.size 0 24 u (Array.replicate (Lib.nDigits u) 0) (w.alloc (.cells Lib.zeros24 209)) hH0 (by rw[Array.size_replicate];exact Lib.lt_pow_nDigits u) hu64 (by rw[Array.size_replicate];omega);rw[Array.size_replicate]at hfmt;have HH0:=Lib.hid hH0;have htab:=Lib.hid he.Z1;clear hH0 hal he;go_enter Tryz.func151,Tryz.ntmps151;go_wp2_with fail
  refine(Tryz.internal_strconv_numDigits u hu1 hu64 _ (Lib.tabIs_alloc htab.out _)).mono ?_;rintro e w' ⟨rfl,rfl⟩;go_wp2_with fail
  refine hfmt.mono ?_;rintro e w' ⟨rfl,k,v',dk,rfl,hF⟩;have hcv:(convert 156 9 (.slice (some ⟨w.heap.size,0,none⟩) (Lib.nDigits u) 24)).run Tryz.prog ((putRow (fun(b:UInt8)=>Value.int .u8 (b.toNat:Int)) (w.alloc (.cells Lib.zeros24 209)) w.heap.size 0 dk).drewN k)=.ok (.string ⟨(Lib.decDigits u).toArray⟩) ((putRow (fun(b:UInt8)=>Value.int .u8 (b.toNat:Int)) (w.alloc (.cells Lib.zeros24 209)) w.heap.size 0 dk).drewN k):=by
   have h:=run_convert_bytes_back (P:=Tryz.prog) ((putRow (fun(b:UInt8)=>Value.int .u8 (b.toNat:Int)) (w.alloc (.cells Lib.zeros24 209)) w.heap.size 0 dk).drewN k) 156 9 5 ⟨w.heap.size,0,none⟩ 24 (Lib.decDigits u) Tryz.underlying156 Tryz.underlying5 Tryz.underlying9 (fun j hj=>by
    rw[Lib.row_is_numeral hF j hj,Lib.add_plain,World.cell?_drewN];exact cell?_putRow (fun(b:UInt8)=>Value.int .u8 (b.toNat:Int)) _ w.heap.size 0 _ dk HH0.out (by rw[hF.size,Array.size_replicate]) j (by rw[hF.size];rw[Lib.decDigits_length]at hj;exact hj))
   rw[Lib.decDigits_length]at h;exact h
  go_wp2;go_ret;refine⟨rfl,?_⟩;rw[alloc_eq_grow];obtain⟨os',_,eo⟩:=putRow_grow_new (fun(b:UInt8)=>Value.int .u8 (b.toNat:Int)) w #[.cells Lib.zeros24 209] w.heap.size 0 dk (Nl _);rw[eo];exact JE ⟨k,os',rfl⟩
theorem NB(u:Nat)(hu:u≤4294967295)(w:World)(he:Env w) :
  Calls Tryz.prog 136 #[.int .u64 u,.int .i64 10] w fun e w'=>e=.returned (.string ⟨(Lib.decDigits u).toArray⟩)∧Below w.heap.size w w':=by
 go_enter Tryz.func136,Tryz.ntmps136;go_wp2_with fail
 refine(NG u hu _ he).mono ?_;rintro e w' ⟨rfl,hb⟩;go_wp2;go_ret;exact⟨rfl,hb⟩
theorem KZ(n:Int)(h0:0≤n)(h1:n≤9223372036854775807)(w:World)(he:Env w) :
  Calls Tryz.prog 135 #[.int .i64 n] w fun e w'=>e=.returned (.string ⟨(Lib.decDigits n.toNat).toArray⟩)∧Below w.heap.size w w':=by
 refine(Tryz.strconv_Itoa n (by omega) h1 w he.Z1).mono ?_;rintro e w' ⟨rfl,hg⟩;refine⟨?_,JE hg⟩;unfold Lib.itoa;rw[if_neg (by omega)]
theorem D5(u:Nat)(hu64:u<18446744073709551616):(Lib.decDigits u).length≤20:=by
 rw[Lib.decDigits_length];by_cases hu1:1≤u
 ·have:=Lib.numDigits_eq u hu1 hu64;split at this<;>omega
 ·obtain rfl:u=0:=by omega
  rw[Lib.nDigits_small (by omega)];omega
end
end Go.Proofs.YtnmahobjmpdkdaaGreatDoor

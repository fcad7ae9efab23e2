/- Parts: AsmWords, Wait, Bits. -/
import Derived.Test.YtjjpiefgdggghaaGreatDoorA03
import Derived.Test.YtjjpiefgdggghaaGreatDoorA06
import Derived.Test.YtjjpiefgdggghaaGreatDoorA04
import Derived.Test.YtjjpiefgdggghaaGreatDoorA11
import Derived.Test.YtjjpiefgdggghaaGreatDoorA07
import Derived.Test.YtjjpiefgdggghaaGreatDoorA10
import Derived.Deep.RegionHeld3
set_option linter.unusedVariables false
set_option linter.unusedSimpArgs false
set_option maxRecDepth 100000
set_option maxHeartbeats 40000000
namespace Go.Proofs.YtjjpiefgdggghaaGreatDoor
section
open Go.RowKit Go.Proofs.YtjjpiefgdggghaaGreatDoorW.PrintWords
theorem WL(l:List UInt8)(k:Nat):bt ⟨l.toArray⟩ (k:Int)=((l.getD k 0).toNat:Int):=by
 unfold bt;by_cases h:k<l.length
 ·rw[dif_pos (by simpa [ByteArray.size]using h)];simp[List.getD_eq_getElem?_getD,List.getElem?_eq_getElem h];rfl
 ·rw[dif_neg (by simpa [ByteArray.size]using h)];simp[List.getD_eq_getElem?_getD,List.getElem?_eq_none (Nat.le_of_not_lt h)]
theorem UR(l:List UInt8):((⟨l.toArray⟩:ByteArray).size:Int)=l.length:=by simp[ByteArray.size]
def E7(l:List UInt8)(c:UInt8):List UInt8×Bool:=if l.getLast?=some c then (l.dropLast,true) else (l,false)
theorem wid{x:Int}(h0:-9223372036854775808≤x)(h1:x<9223372036854775808):wrap64 x=x:=by unfold wrap64;omega
theorem VI(l:List UInt8)(c:UInt8)(hl:l.length≤1000000):C6.f ⟨l.toArray⟩ ⟨#[c]⟩=some (⟨(E7 l c).1.toArray⟩,(E7 l c).2):=by
 have h1:((⟨#[c]⟩:ByteArray).size:Int)=1:=rfl;unfold C6.f BD.f B0.f E7;rw[UR,h1];by_cases hn:l=[]
 ·subst hn;rfl
 ·have hp:0<l.length:=List.length_pos_iff.2 hn;have e:wrap64 ((l.length:Int)-1)=(l.length:Int)-1:=wid (by omega) (by omega);have et:((l.length:Int)-1).toNat=l.length-1:=by omega
  rw[e,if_pos (by omega),if_pos (by omega),if_pos (by omega),et];have hs:(⟨l.toArray⟩:ByteArray).size=l.length:=by simp[ByteArray.size]
  have hx:((⟨l.toArray⟩:ByteArray).extract (l.length-1) (⟨l.toArray⟩:ByteArray).size).toList=[l.getLast hn]:=by
   rw[hs,D4,toList_mk,List.drop_eq_getElem_cons (by omega),show l.length-1+1=l.length by omega,List.drop_length,List.getLast_eq_getElem];exact List.take_of_length_le (by simp;omega)
  have hy:(⟨#[c]⟩:ByteArray).toList=[c]:=toList_mk [c];rw[hx,hy,List.getLast?_eq_some_getLast hn];by_cases hc:l.getLast hn=c
  ·simp only[hc,Option.bind_some,beq_self_eq_true,if_true];rw[D4,if_pos (show(0:Int)≤(l.length:Int)-1 by omega),if_pos (show(l.length:Int)-1≤(l.length:Int) by omega)];simp[List.dropLast_eq_take]
  ·have hc':¬some (l.getLast hn)=some c:=fun h=>hc (Option.some.inj h)
   have:([l.getLast hn]==[c])=false:=Bq (fun h=>hc (List.head_eq_of_cons_eq h));simp only[this,Option.bind_some,if_neg hc'];rfl
theorem DK(l:List UInt8)(c:UInt8)(hl:l.length≤1000000)(w:World):Calls Tryz.prog 96 #[.string ⟨l.toArray⟩,.string ⟨#[c]⟩] w fun e w' =>
  e=.returned (.tuple #[.string ⟨(E7 l c).1.toArray⟩,.bool (E7 l c).2])∧Below w.heap.size w w' :=
 (C6.calls _ _ _ _ w (VI l c hl)).mono fun e w' h=>⟨h.1,h.2.below⟩
theorem Hi:∀ (l:List UInt8),(32:UInt8)∈l→∃ a b,l=a++32::b∧(32:UInt8)∉b
 |c::l,h=>by
  by_cases h2:(32:UInt8)∈l
  ·obtain⟨a,b,e,hb⟩:=Hi l h2;exact⟨c::a,b,by rw[e];rfl,hb⟩
  ·cases h with
   |head=>exact⟨[],l,rfl,h2⟩
   |tail _ h=>exact absurd h h2
theorem IN:∀ (a b:List UInt8),(32:UInt8)∉b→AJ (a++32::b)=AJ a++[b]
 |[],b,h=>by rw[List.nil_append,show AJ (32::b)=[]::AJ b by simp[AJ],ED b h];rfl
 |c::a,b,h=>by
  have ih:=IN a b h;rw[List.cons_append,AJ,AJ];by_cases hc:c=32
  ·rw[if_pos hc,if_pos hc,ih];rfl
  ·rw[if_neg hc,if_neg hc,ih];cases hs:AJ a with
   |nil=>exact absurd hs (Ej a)
   |cons x xs=>rfl
theorem Gt{l:List UInt8}(h:(32:UInt8)∉l):Cq l=l∧BE l=[]:=by
 have e:Cq l=l:=by unfold Cq;rw[ED l h];rfl
 exact⟨e,by unfold BE;rw[e,Nat.sub_self];rfl⟩
theorem Hj{a b:List UInt8}(h:(32:UInt8)∉b):Cq (a++32::b)=b∧BE (a++32::b)=a++[32]:=by
 have e:Cq (a++32::b)=b:=by unfold Cq;rw[IN a b h];simp[List.getLastD_eq_getLast?]
 refine⟨e,?_⟩;unfold BE;rw[e,show(a++32::b).length-b.length=(a++[32]).length by simp;omega,show a++32::b=(a++[32])++b by simp,List.take_left]
theorem KP(l:List UInt8):BE l++Cq l=l:=by
 by_cases h:(32:UInt8)∈l
 ·obtain⟨a,b,rfl,hb⟩:=Hi l h;rw[(Hj hb).1,(Hj hb).2];simp
 ·rw[(Gt h).1,(Gt h).2];rfl
theorem KS(l:List UInt8)(h:(32:UInt8)∉l)(hl:l.length≤1000000):∀ (j:Nat),j≤l.length→Ah.l0 (j+1) ⟨l.toArray⟩ 32 ((j:Int)-1)=some (-1)
 |0,_=>by rw[Ah.l0,if_neg (by omega)]
 |j+1,hj=>by
  have hne:¬((l.getD j 0).toNat:Int)=32:=fun e=>h (by
   have:l.getD j 0=32:=UInt8.toNat_inj.1 (by show(l.getD j 0).toNat=32;omega);rw[←this,List.getD_eq_getElem?_getD,List.getElem?_eq_getElem (by omega)];exact List.getElem_mem _)
  rw[Ah.l0,UR,show(((j+1:Nat):Int)-1)=(j:Int) by omega,WL,if_pos (by omega),if_pos (by omega),if_pos (by omega),if_neg hne,wid (by omega) (by omega)];exact KS l h hl j (by omega)
theorem KT(a b:List UInt8)(h:(32:UInt8)∉b)(hl:(a++32::b).length≤1000000):∀ (j:Nat),j≤b.length→Ah.l0 (j+1) ⟨(a++32::b).toArray⟩ 32 ((a.length+j:Nat):Int)=some (a.length:Int)
 |0,_=>by
  have e:(a++32::b).getD (a.length+0) 0=32:=by simp[List.getD_eq_getElem?_getD]
  have hz:(a++32::b).length=a.length+1+b.length:=by simp;omega
  rw[Ah.l0,UR,WL,e,if_pos (by omega),if_pos (by omega),if_pos (by omega)];rfl
 |j+1,hj=>by
  have hz:(a++32::b).length=a.length+1+b.length:=by simp;omega
  have e:(a++32::b).getD (a.length+(j+1)) 0=b.getD j 0:=by
   simp[List.getD_eq_getElem?_getD,List.getElem?_append_right (show a.length≤a.length+(j+1) by omega)]
  have hne:¬((b.getD j 0).toNat:Int)=32:=fun e=>h (by
   have:b.getD j 0=32:=UInt8.toNat_inj.1 (by show(b.getD j 0).toNat=32;omega);rw[←this,List.getD_eq_getElem?_getD,List.getElem?_eq_getElem (by omega)];exact List.getElem_mem _)
  rw[Ah.l0,UR,WL,e,if_pos (by omega),if_pos (by omega),if_pos (by omega),if_neg hne,wid (by omega) (by omega),show(((a.length+(j+1):Nat):Int)-1)=((a.length+j:Nat):Int) by omega];exact KT a b h hl j (by omega)
theorem UG(l:List UInt8)(hl:l.length≤1000000):∃ k,AR.f k ⟨l.toArray⟩ 32=some (((BE l).length:Int)-1):=by
 have e:wrap64 ((l.length:Int)-1)=(l.length:Int)-1:=wid (by omega) (by omega);by_cases h:(32:UInt8)∈l
 ·obtain⟨a,b,rfl,hb⟩:=Hi l h;refine⟨b.length+1,?_⟩;have hk:=KT a b hb hl b.length (Nl _);have hz:((a++32::b).length:Int)-1=((a.length+b.length:Nat):Int):=by simp;omega
  unfold AR.f Ah.f;rw[UR,e,hz,hk,(Hj hb).2];simp
 ·refine⟨l.length+1,?_⟩;have hk:=KS l h hl l.length (Nl _);unfold AR.f Ah.f;rw[UR,e,hk,(Gt h).2];rfl
theorem Oj(l:List UInt8)(hl:l.length≤1000000)(w:World):Calls Tryz.prog 121 #[.string ⟨l.toArray⟩,.int .u8 32] w fun e w' =>
  e=.returned (.int .i64 (((BE l).length:Int)-1))∧Below w.heap.size w w':=by
 obtain⟨k,hk⟩:=UG l hl;exact(AR.calls k _ _ _ w hk).mono fun e w' h=>⟨h.1,h.2.below⟩
def CO(w:World)(v:Value)(ss:List (List UInt8)):Prop :=
 (ss=[]∧∃ A,v=.slice A 0 0)∨∃ g o,v=.slice (some ⟨g,o,none⟩) ss.length ss.length∧(∃ cs,w.heap[g]?=some (.cells cs 9 (0,0))∧∀ j,j<ss.length→cs[o+j]?=some (.string ⟨(ss.getD j []).toArray⟩))
theorem AB{w w1:World}{g:Nat}(h:w.grownBy w1 (some g))(o:Nat)(v:Value):w.grownBy (w1.setCell ⟨g,o,none⟩ v) (some g) :=
 ⟨h.os,h.tape,h.output,by rw[World.setCell];simp;exact h.size,fun i hi hne=>(Below.heap_setCell w1 ⟨g,o,none⟩ v i (fun e=>hne (by rw[e]))).trans (h.block i hi hne)⟩
theorem Ch(w:World)(row:Option Nat):w.grownBy w row:=⟨rfl,rfl,rfl,Nl _,fun _ _ _=>rfl⟩
theorem BQ{w w1 w2:World}{row:Option Nat}(h:w.grownBy w1 row)(hb:Below w1.heap.size w1 w2):w.grownBy w2 row :=
 ⟨hb.os.trans h.os,hb.tape.trans h.tape,hb.output.trans h.output,Nat.le_trans h.size hb.size,fun i hi hne=>(hb.block i (Nat.lt_of_lt_of_le hi h.size)).trans (h.block i hi hne)⟩
theorem Tm(gi g o:Nat)(r:In)(s0:List UInt8)(cs:Array Value)(w0 w:World)(he:Env w0)(hb0:Below w0.heap.size w0 w)(hgi:w0.heap.size≤gi)(hne:gi≠g)(hI:w.heap[gi]?=some (.cells r.cs 126 (0,0)))(hs:s0=[110,101])(hg:w.heap[g]?=some (.cells cs 9 (0,0)))(hcs:∀ j,j<[s0].length→cs[o+j]?=some (.string ⟨([s0].getD j []).toArray⟩)) :
  Calls Tryz.prog 150 #[.pointer (some ⟨gi,0,none⟩),.slice (some ⟨g,o,none⟩) 1 1] w fun e w' =>
   ∃ v,e=.returned v∧CO w' v (AY r [s0]).2∧w'.heap[gi]?=some (.cells (AY r [s0]).1.cs 126 (0,0))∧w.grownBy w' (some gi):=by
 have c0:w.cell? ⟨g,o,none⟩=some (.string ⟨s0.toArray⟩):=(Bc hg o).trans (hcs 0 (by simp));have i6:w.cell? ⟨gi,6,none⟩=some (.int .u32 r.k):=(Bc hI 6).trans rfl;have i7:w.cell? ⟨gi,7,none⟩=some (.int .i64 r.q):=(Bc hI 7).trans rfl;have f6:=Bf hI 6;have f7:=Bf hI 7;have hne':g≠gi:=fun e=>hne e.symm
 have t0:(s0==[110,101])=true:=beq_iff_eq.2 hs;have hfin:AY r [s0]=({r with q := -1,k:=1},[]):=by simp[AY,hs]
 rw[hfin];clear hfin;replace hI:=Az hI;replace hg:=Az hg;replace hcs:=Az hcs;replace hs:=Az hs;go_enter Tryz.func150,Tryz.ntmps150;go_wp2;go_ret;exact⟨_,rfl,.inl ⟨rfl,_,rfl⟩,Bs (Bs (hI.out) 7 (.int .i64 (-1))) 6 (.int .u32 1),AB (AB (Ch w (some gi)) 7 _) 6 _⟩
theorem Tn(gi g o:Nat)(r:In)(s0:List UInt8)(cs:Array Value)(w0 w:World)(he:Env w0)(hb0:Below w0.heap.size w0 w)(hgi:w0.heap.size≤gi)(hne:gi≠g)(hI:w.heap[gi]?=some (.cells r.cs 126 (0,0)))(hs:s0≠[110,101])(hg:w.heap[g]?=some (.cells cs 9 (0,0)))(hcs:∀ j,j<[s0].length→cs[o+j]?=some (.string ⟨([s0].getD j []).toArray⟩)) :
  Calls Tryz.prog 150 #[.pointer (some ⟨gi,0,none⟩),.slice (some ⟨g,o,none⟩) 1 1] w fun e w' =>
   ∃ v,e=.returned v∧CO w' v (AY r [s0]).2∧w'.heap[gi]?=some (.cells (AY r [s0]).1.cs 126 (0,0))∧w.grownBy w' (some gi):=by
 have c0:w.cell? ⟨g,o,none⟩=some (.string ⟨s0.toArray⟩):=(Bc hg o).trans (hcs 0 (by simp));have i6:w.cell? ⟨gi,6,none⟩=some (.int .u32 r.k):=(Bc hI 6).trans rfl;have i7:w.cell? ⟨gi,7,none⟩=some (.int .i64 r.q):=(Bc hI 7).trans rfl;have f6:=Bf hI 6;have f7:=Bf hI 7;have hne':g≠gi:=fun e=>hne e.symm
 have t0:(s0==[110,101])=false:=Bq hs;have hfin:AY r [s0]=({r with q := -1},[]):=by simp[AY,hs]
 rw[hfin];clear hfin;replace hI:=Az hI;replace hg:=Az hg;replace hcs:=Az hcs;replace hs:=Az hs;go_enter Tryz.func150,Tryz.ntmps150;go_wp2;go_ret;exact⟨_,rfl,.inl ⟨rfl,_,rfl⟩,Bs (hI.out) 7 (.int .i64 (-1)),AB (Ch w (some gi)) 7 _⟩
theorem To(gi g o:Nat)(r:In)(s0 s1:List UInt8)(cs:Array Value)(w0 w:World)(he:Env w0)(hb0:Below w0.heap.size w0 w)(hgi:w0.heap.size≤gi)(hne:gi≠g)(hI:w.heap[gi]?=some (.cells r.cs 126 (0,0)))(hs:s0=[110,101])(hg:w.heap[g]?=some (.cells cs 9 (0,0)))(hcs:∀ j,j<[s0,s1].length→cs[o+j]?=some (.string ⟨([s0,s1].getD j []).toArray⟩))(hl1:s1.length≤4294967280) :
  Calls Tryz.prog 150 #[.pointer (some ⟨gi,0,none⟩),.slice (some ⟨g,o,none⟩) 2 2] w fun e w' =>
   ∃ v,e=.returned v∧CO w' v (AY r [s0,s1]).2∧w'.heap[gi]?=some (.cells (AY r [s0,s1]).1.cs 126 (0,0))∧w.grownBy w' (some gi):=by
 have c0:w.cell? ⟨g,o,none⟩=some (.string ⟨s0.toArray⟩):=(Bc hg o).trans (hcs 0 (by simp));have c1:w.cell? ⟨g,o+1,none⟩=some (.string ⟨s1.toArray⟩):=(Bc hg (o+1)).trans (hcs 1 (by simp));have i6:w.cell? ⟨gi,6,none⟩=some (.int .u32 r.k):=(Bc hI 6).trans rfl;have i7:w.cell? ⟨gi,7,none⟩=some (.int .i64 r.q):=(Bc hI 7).trans rfl;have f6:=Bf hI 6;have f7:=Bf hI 7;have hne':g≠gi:=fun e=>hne e.symm
 have t0:(s0==[110,101])=true:=beq_iff_eq.2 hs;have hfin:AY r [s0,s1]=({r with q := -1,k:=1,t:=BV s1},[]):=by simp[AY,hs]
 rw[hfin];clear hfin;replace hI:=Az hI;replace hg:=Az hg;replace hcs:=Az hcs;replace hs:=Az hs;go_enter Tryz.func150,Tryz.ntmps150;have hB1:=Az ((hb0.setCell (p:=⟨gi,7,none⟩) hgi (.int .i64 (-1))).setCell (p:=⟨gi,6,none⟩) hgi (.int .u32 1));go_wp2_with fail
 refine(Bp s1 _ hl1 (he.below hB1.out)).mono ?_;rintro e w1 ⟨rfl,hb1⟩;have hI1:=Az (show w1.heap[gi]?=some (.cells (In.cs {r with q := -1,k:=1}) 126 (0,0)) from Bk hb1 (Bs (Bs (hI.out) 7 (.int .i64 (-1))) 6 (.int .u32 1)));have hg1:=Az (Bk hb1 (Ba (Ba (hg.out) hne' _) hne' _));have hr1:=Az (BQ (AB (AB (Ch w (some gi)) 7 _) 6 _) hb1);have i31:w1.cell? ⟨gi,3,none⟩=some (.int .i64 r.t):=(Bc hI1.out 3).trans rfl;have f31:=Bf hI1.out 3;go_wp2;go_ret;exact⟨_,rfl,.inl ⟨rfl,_,rfl⟩,Bs hI1.out 3 (.int .i64 (BV s1)),AB hr1.out 3 _⟩
theorem Tp(gi g o:Nat)(r:In)(s0 s1:List UInt8)(cs:Array Value)(w0 w:World)(he:Env w0)(hb0:Below w0.heap.size w0 w)(hgi:w0.heap.size≤gi)(hne:gi≠g)(hI:w.heap[gi]?=some (.cells r.cs 126 (0,0)))(hs:s0≠[110,101])(hg:w.heap[g]?=some (.cells cs 9 (0,0)))(hcs:∀ j,j<[s0,s1].length→cs[o+j]?=some (.string ⟨([s0,s1].getD j []).toArray⟩))(hl1:s1.length≤4294967280) :
  Calls Tryz.prog 150 #[.pointer (some ⟨gi,0,none⟩),.slice (some ⟨g,o,none⟩) 2 2] w fun e w' =>
   ∃ v,e=.returned v∧CO w' v (AY r [s0,s1]).2∧w'.heap[gi]?=some (.cells (AY r [s0,s1]).1.cs 126 (0,0))∧w.grownBy w' (some gi):=by
 have c0:w.cell? ⟨g,o,none⟩=some (.string ⟨s0.toArray⟩):=(Bc hg o).trans (hcs 0 (by simp));have c1:w.cell? ⟨g,o+1,none⟩=some (.string ⟨s1.toArray⟩):=(Bc hg (o+1)).trans (hcs 1 (by simp));have i6:w.cell? ⟨gi,6,none⟩=some (.int .u32 r.k):=(Bc hI 6).trans rfl;have i7:w.cell? ⟨gi,7,none⟩=some (.int .i64 r.q):=(Bc hI 7).trans rfl;have f6:=Bf hI 6;have f7:=Bf hI 7;have hne':g≠gi:=fun e=>hne e.symm
 have t0:(s0==[110,101])=false:=Bq hs;have hfin:AY r [s0,s1]=({r with q := -1,t:=BV s1},[]):=by simp[AY,hs]
 rw[hfin];clear hfin;replace hI:=Az hI;replace hg:=Az hg;replace hcs:=Az hcs;replace hs:=Az hs;go_enter Tryz.func150,Tryz.ntmps150;have hB1:=Az (hb0.setCell (p:=⟨gi,7,none⟩) hgi (.int .i64 (-1)));go_wp2_with fail
 refine(Bp s1 _ hl1 (he.below hB1.out)).mono ?_;rintro e w1 ⟨rfl,hb1⟩;have hI1:=Az (show w1.heap[gi]?=some (.cells (In.cs {r with q := -1}) 126 (0,0)) from Bk hb1 (Bs (hI.out) 7 (.int .i64 (-1))));have hg1:=Az (Bk hb1 (Ba (hg.out) hne' _));have hr1:=Az (BQ (AB (Ch w (some gi)) 7 _) hb1);have i31:w1.cell? ⟨gi,3,none⟩=some (.int .i64 r.t):=(Bc hI1.out 3).trans rfl;have f31:=Bf hI1.out 3;go_wp2;go_ret;exact⟨_,rfl,.inl ⟨rfl,_,rfl⟩,Bs hI1.out 3 (.int .i64 (BV s1)),AB hr1.out 3 _⟩
theorem Tq(gi g o:Nat)(r:In)(s0 s1 s2:List UInt8)(cs:Array Value)(w0 w:World)(he:Env w0)(hb0:Below w0.heap.size w0 w)(hgi:w0.heap.size≤gi)(hne:gi≠g)(hI:w.heap[gi]?=some (.cells r.cs 126 (0,0)))(hs:s0=[110,101])(hg:w.heap[g]?=some (.cells cs 9 (0,0)))(hcs:∀ j,j<[s0,s1,s2].length→cs[o+j]?=some (.string ⟨([s0,s1,s2].getD j []).toArray⟩))(hl1:s1.length≤4294967280) :
  Calls Tryz.prog 150 #[.pointer (some ⟨gi,0,none⟩),.slice (some ⟨g,o,none⟩) 3 3] w fun e w' =>
   ∃ v,e=.returned v∧CO w' v (AY r [s0,s1,s2]).2∧w'.heap[gi]?=some (.cells (AY r [s0,s1,s2]).1.cs 126 (0,0))∧w.grownBy w' (some gi):=by
 have c0:w.cell? ⟨g,o,none⟩=some (.string ⟨s0.toArray⟩):=(Bc hg o).trans (hcs 0 (by simp));have c1:w.cell? ⟨g,o+1,none⟩=some (.string ⟨s1.toArray⟩):=(Bc hg (o+1)).trans (hcs 1 (by simp));have c2:w.cell? ⟨g,o+2,none⟩=some (.string ⟨s2.toArray⟩):=(Bc hg (o+2)).trans (hcs 2 (by simp));have i6:w.cell? ⟨gi,6,none⟩=some (.int .u32 r.k):=(Bc hI 6).trans rfl;have i7:w.cell? ⟨gi,7,none⟩=some (.int .i64 r.q):=(Bc hI 7).trans rfl;have f6:=Bf hI 6;have f7:=Bf hI 7;have hne':g≠gi:=fun e=>hne e.symm
 have t0:(s0==[110,101])=true:=beq_iff_eq.2 hs;have hfin:AY r [s0,s1,s2]=({r with q := -1,k:=1,t:=BV s1},[s2]):=by simp[AY,hs]
 rw[hfin];clear hfin;replace hI:=Az hI;replace hg:=Az hg;replace hcs:=Az hcs;replace hs:=Az hs;go_enter Tryz.func150,Tryz.ntmps150;have hB1:=Az ((hb0.setCell (p:=⟨gi,7,none⟩) hgi (.int .i64 (-1))).setCell (p:=⟨gi,6,none⟩) hgi (.int .u32 1));go_wp2_with fail
 refine(Bp s1 _ hl1 (he.below hB1.out)).mono ?_;rintro e w1 ⟨rfl,hb1⟩;have hI1:=Az (show w1.heap[gi]?=some (.cells (In.cs {r with q := -1,k:=1}) 126 (0,0)) from Bk hb1 (Bs (Bs (hI.out) 7 (.int .i64 (-1))) 6 (.int .u32 1)));have hg1:=Az (Bk hb1 (Ba (Ba (hg.out) hne' _) hne' _));have hr1:=Az (BQ (AB (AB (Ch w (some gi)) 7 _) 6 _) hb1);have i31:w1.cell? ⟨gi,3,none⟩=some (.int .i64 r.t):=(Bc hI1.out 3).trans rfl;have f31:=Bf hI1.out 3;go_wp2;go_ret;exact⟨_,rfl,.inr ⟨g,o+2,rfl,_,Ba hg1.out hne' _,fun j hj=>by have:=hcs.out (2+j) (by simp at hj ⊢;omega);rw[←Nat.add_assoc]at this;simpa [Nat.add_comm 2 j]using this⟩,Bs hI1.out 3 (.int .i64 (BV s1)),AB hr1.out 3 _⟩
theorem Tr(gi g o:Nat)(r:In)(s0 s1 s2:List UInt8)(cs:Array Value)(w0 w:World)(he:Env w0)(hb0:Below w0.heap.size w0 w)(hgi:w0.heap.size≤gi)(hne:gi≠g)(hI:w.heap[gi]?=some (.cells r.cs 126 (0,0)))(hs:s0≠[110,101])(hg:w.heap[g]?=some (.cells cs 9 (0,0)))(hcs:∀ j,j<[s0,s1,s2].length→cs[o+j]?=some (.string ⟨([s0,s1,s2].getD j []).toArray⟩))(hl1:s1.length≤4294967280) :
  Calls Tryz.prog 150 #[.pointer (some ⟨gi,0,none⟩),.slice (some ⟨g,o,none⟩) 3 3] w fun e w' =>
   ∃ v,e=.returned v∧CO w' v (AY r [s0,s1,s2]).2∧w'.heap[gi]?=some (.cells (AY r [s0,s1,s2]).1.cs 126 (0,0))∧w.grownBy w' (some gi):=by
 have c0:w.cell? ⟨g,o,none⟩=some (.string ⟨s0.toArray⟩):=(Bc hg o).trans (hcs 0 (by simp));have c1:w.cell? ⟨g,o+1,none⟩=some (.string ⟨s1.toArray⟩):=(Bc hg (o+1)).trans (hcs 1 (by simp));have c2:w.cell? ⟨g,o+2,none⟩=some (.string ⟨s2.toArray⟩):=(Bc hg (o+2)).trans (hcs 2 (by simp));have i6:w.cell? ⟨gi,6,none⟩=some (.int .u32 r.k):=(Bc hI 6).trans rfl;have i7:w.cell? ⟨gi,7,none⟩=some (.int .i64 r.q):=(Bc hI 7).trans rfl;have f6:=Bf hI 6;have f7:=Bf hI 7;have hne':g≠gi:=fun e=>hne e.symm
 have t0:(s0==[110,101])=false:=Bq hs;have hfin:AY r [s0,s1,s2]=({r with q := -1,t:=BV s1},[s2]):=by simp[AY,hs]
 rw[hfin];clear hfin;replace hI:=Az hI;replace hg:=Az hg;replace hcs:=Az hcs;replace hs:=Az hs;go_enter Tryz.func150,Tryz.ntmps150;have hB1:=Az (hb0.setCell (p:=⟨gi,7,none⟩) hgi (.int .i64 (-1)));go_wp2_with fail
 refine(Bp s1 _ hl1 (he.below hB1.out)).mono ?_;rintro e w1 ⟨rfl,hb1⟩;have hI1:=Az (show w1.heap[gi]?=some (.cells (In.cs {r with q := -1}) 126 (0,0)) from Bk hb1 (Bs (hI.out) 7 (.int .i64 (-1))));have hg1:=Az (Bk hb1 (Ba (hg.out) hne' _));have hr1:=Az (BQ (AB (Ch w (some gi)) 7 _) hb1);have i31:w1.cell? ⟨gi,3,none⟩=some (.int .i64 r.t):=(Bc hI1.out 3).trans rfl;have f31:=Bf hI1.out 3;go_wp2;go_ret;exact⟨_,rfl,.inr ⟨g,o+2,rfl,_,Ba hg1.out hne' _,fun j hj=>by have:=hcs.out (2+j) (by simp at hj ⊢;omega);rw[←Nat.add_assoc]at this;simpa [Nat.add_comm 2 j]using this⟩,Bs hI1.out 3 (.int .i64 (BV s1)),AB hr1.out 3 _⟩
theorem RF(gi g o:Nat)(r:In)(s0 s1 s2 s3:List UInt8)(cs:Array Value)(w0 w:World)(he:Env w0)(hb0:Below w0.heap.size w0 w)(hgi:w0.heap.size≤gi)(hne:gi≠g)(hI:w.heap[gi]?=some (.cells r.cs 126 (0,0)))(hs:s0=[110,101])(hs2:s2=[101,108,115,101])(hg:w.heap[g]?=some (.cells cs 9 (0,0)))(hcs:∀ j,j<[s0,s1,s2,s3].length→cs[o+j]?=some (.string ⟨([s0,s1,s2,s3].getD j []).toArray⟩))(hl1:s1.length≤4294967280)(hl3:s3.length≤4294967280) :
  Calls Tryz.prog 150 #[.pointer (some ⟨gi,0,none⟩),.slice (some ⟨g,o,none⟩) 4 4] w fun e w' =>
   ∃ v,e=.returned v∧CO w' v (AY r [s0,s1,s2,s3]).2∧w'.heap[gi]?=some (.cells (AY r [s0,s1,s2,s3]).1.cs 126 (0,0))∧w.grownBy w' (some gi):=by
 have c0:w.cell? ⟨g,o,none⟩=some (.string ⟨s0.toArray⟩):=(Bc hg o).trans (hcs 0 (by simp));have c1:w.cell? ⟨g,o+1,none⟩=some (.string ⟨s1.toArray⟩):=(Bc hg (o+1)).trans (hcs 1 (by simp));have c2:w.cell? ⟨g,o+2,none⟩=some (.string ⟨s2.toArray⟩):=(Bc hg (o+2)).trans (hcs 2 (by simp));have c3:w.cell? ⟨g,o+3,none⟩=some (.string ⟨s3.toArray⟩):=(Bc hg (o+3)).trans (hcs 3 (by simp));have i6:w.cell? ⟨gi,6,none⟩=some (.int .u32 r.k):=(Bc hI 6).trans rfl;have i7:w.cell? ⟨gi,7,none⟩=some (.int .i64 r.q):=(Bc hI 7).trans rfl;have f6:=Bf hI 6;have f7:=Bf hI 7;have hne':g≠gi:=fun e=>hne e.symm
 have t0:(s0==[110,101])=true:=beq_iff_eq.2 hs;have t2:(s2==[101,108,115,101])=true:=beq_iff_eq.2 hs2;have hfin:AY r [s0,s1,s2,s3]=({r with q:=BV s3,k:=1,t:=BV s1},[]):=by simp[AY,hs,hs2]
 rw[hfin];clear hfin;replace hI:=Az hI;replace hg:=Az hg;replace hcs:=Az hcs;replace hs:=Az hs;replace hs2:=Az hs2;go_enter Tryz.func150,Tryz.ntmps150;have hB1:=Az ((hb0.setCell (p:=⟨gi,7,none⟩) hgi (.int .i64 (-1))).setCell (p:=⟨gi,6,none⟩) hgi (.int .u32 1));go_wp2_with fail
 refine(Bp s1 _ hl1 (he.below hB1.out)).mono ?_;rintro e w1 ⟨rfl,hb1⟩;have hI1:=Az (show w1.heap[gi]?=some (.cells (In.cs {r with q := -1,k:=1}) 126 (0,0)) from Bk hb1 (Bs (Bs (hI.out) 7 (.int .i64 (-1))) 6 (.int .u32 1)));have hg1:=Az (Bk hb1 (Ba (Ba (hg.out) hne' _) hne' _));have hr1:=Az (BQ (AB (AB (Ch w (some gi)) 7 _) 6 _) hb1);have i31:w1.cell? ⟨gi,3,none⟩=some (.int .i64 r.t):=(Bc hI1.out 3).trans rfl;have f31:=Bf hI1.out 3;have d2:w1.cell? ⟨g,o+2,none⟩=some (.string ⟨s2.toArray⟩):=(Bc hg1.out (o+2)).trans (hcs.out 2 (by simp));have d3:w1.cell? ⟨g,o+3,none⟩=some (.string ⟨s3.toArray⟩):=(Bc hg1.out (o+3)).trans (hcs.out 3 (by simp));have hB2:=Az ((hB1.out.trans (hb1.mono hB1.out.size)).setCell (p:=⟨gi,3,none⟩) hgi (.int .i64 (BV s1)));go_wp2_with fail
 refine(Bp s3 _ hl3 (he.below hB2.out)).mono ?_;rintro e w2 ⟨rfl,hb2⟩;have hI2:=Az (show w2.heap[gi]?=some (.cells (In.cs {r with q := -1,k:=1,t:=BV s1}) 126 (0,0)) from Bk hb2 (Bs hI1.out 3 (.int .i64 (BV s1))));have hr2:=Az (BQ (AB hr1.out 3 _) hb2);have i72:w2.cell? ⟨gi,7,none⟩=some (.int .i64 (-1)):=(Bc hI2.out 7).trans rfl;have f72:=Bf hI2.out 7;go_wp2;go_ret;exact⟨_,rfl,.inl ⟨rfl,_,rfl⟩,Bs hI2.out 7 (.int .i64 (BV s3)),AB hr2.out 7 _⟩
theorem RG(gi g o:Nat)(r:In)(s0 s1 s2 s3:List UInt8)(cs:Array Value)(w0 w:World)(he:Env w0)(hb0:Below w0.heap.size w0 w)(hgi:w0.heap.size≤gi)(hne:gi≠g)(hI:w.heap[gi]?=some (.cells r.cs 126 (0,0)))(hs:s0=[110,101])(hs2:s2≠[101,108,115,101])(hg:w.heap[g]?=some (.cells cs 9 (0,0)))(hcs:∀ j,j<[s0,s1,s2,s3].length→cs[o+j]?=some (.string ⟨([s0,s1,s2,s3].getD j []).toArray⟩))(hl1:s1.length≤4294967280)(hl3:s3.length≤4294967280) :
  Calls Tryz.prog 150 #[.pointer (some ⟨gi,0,none⟩),.slice (some ⟨g,o,none⟩) 4 4] w fun e w' =>
   ∃ v,e=.returned v∧CO w' v (AY r [s0,s1,s2,s3]).2∧w'.heap[gi]?=some (.cells (AY r [s0,s1,s2,s3]).1.cs 126 (0,0))∧w.grownBy w' (some gi):=by
 have c0:w.cell? ⟨g,o,none⟩=some (.string ⟨s0.toArray⟩):=(Bc hg o).trans (hcs 0 (by simp));have c1:w.cell? ⟨g,o+1,none⟩=some (.string ⟨s1.toArray⟩):=(Bc hg (o+1)).trans (hcs 1 (by simp));have c2:w.cell? ⟨g,o+2,none⟩=some (.string ⟨s2.toArray⟩):=(Bc hg (o+2)).trans (hcs 2 (by simp));have c3:w.cell? ⟨g,o+3,none⟩=some (.string ⟨s3.toArray⟩):=(Bc hg (o+3)).trans (hcs 3 (by simp));have i6:w.cell? ⟨gi,6,none⟩=some (.int .u32 r.k):=(Bc hI 6).trans rfl;have i7:w.cell? ⟨gi,7,none⟩=some (.int .i64 r.q):=(Bc hI 7).trans rfl;have f6:=Bf hI 6;have f7:=Bf hI 7;have hne':g≠gi:=fun e=>hne e.symm
 have t0:(s0==[110,101])=true:=beq_iff_eq.2 hs;have t2:(s2==[101,108,115,101])=false:=Bq hs2;have hfin:AY r [s0,s1,s2,s3]=({r with q := -1,k:=1,t:=BV s1},[s2,s3]):=by simp[AY,hs,hs2]
 rw[hfin];clear hfin;replace hI:=Az hI;replace hg:=Az hg;replace hcs:=Az hcs;replace hs:=Az hs;replace hs2:=Az hs2;go_enter Tryz.func150,Tryz.ntmps150;have hB1:=Az ((hb0.setCell (p:=⟨gi,7,none⟩) hgi (.int .i64 (-1))).setCell (p:=⟨gi,6,none⟩) hgi (.int .u32 1));go_wp2_with fail
 refine(Bp s1 _ hl1 (he.below hB1.out)).mono ?_;rintro e w1 ⟨rfl,hb1⟩;have hI1:=Az (show w1.heap[gi]?=some (.cells (In.cs {r with q := -1,k:=1}) 126 (0,0)) from Bk hb1 (Bs (Bs (hI.out) 7 (.int .i64 (-1))) 6 (.int .u32 1)));have hg1:=Az (Bk hb1 (Ba (Ba (hg.out) hne' _) hne' _));have hr1:=Az (BQ (AB (AB (Ch w (some gi)) 7 _) 6 _) hb1);have i31:w1.cell? ⟨gi,3,none⟩=some (.int .i64 r.t):=(Bc hI1.out 3).trans rfl;have f31:=Bf hI1.out 3;have d2:w1.cell? ⟨g,o+2,none⟩=some (.string ⟨s2.toArray⟩):=(Bc hg1.out (o+2)).trans (hcs.out 2 (by simp));have d3:w1.cell? ⟨g,o+3,none⟩=some (.string ⟨s3.toArray⟩):=(Bc hg1.out (o+3)).trans (hcs.out 3 (by simp));go_wp2;go_ret;exact⟨_,rfl,.inr ⟨g,o+2,rfl,_,Ba hg1.out hne' _,fun j hj=>by have:=hcs.out (2+j) (by simp at hj ⊢;omega);rw[←Nat.add_assoc]at this;simpa [Nat.add_comm 2 j]using this⟩,Bs hI1.out 3 (.int .i64 (BV s1)),AB hr1.out 3 _⟩
theorem RH(gi g o:Nat)(r:In)(s0 s1 s2 s3:List UInt8)(cs:Array Value)(w0 w:World)(he:Env w0)(hb0:Below w0.heap.size w0 w)(hgi:w0.heap.size≤gi)(hne:gi≠g)(hI:w.heap[gi]?=some (.cells r.cs 126 (0,0)))(hs:s0≠[110,101])(hs2:s2=[101,108,115,101])(hg:w.heap[g]?=some (.cells cs 9 (0,0)))(hcs:∀ j,j<[s0,s1,s2,s3].length→cs[o+j]?=some (.string ⟨([s0,s1,s2,s3].getD j []).toArray⟩))(hl1:s1.length≤4294967280)(hl3:s3.length≤4294967280) :
  Calls Tryz.prog 150 #[.pointer (some ⟨gi,0,none⟩),.slice (some ⟨g,o,none⟩) 4 4] w fun e w' =>
   ∃ v,e=.returned v∧CO w' v (AY r [s0,s1,s2,s3]).2∧w'.heap[gi]?=some (.cells (AY r [s0,s1,s2,s3]).1.cs 126 (0,0))∧w.grownBy w' (some gi):=by
 have c0:w.cell? ⟨g,o,none⟩=some (.string ⟨s0.toArray⟩):=(Bc hg o).trans (hcs 0 (by simp));have c1:w.cell? ⟨g,o+1,none⟩=some (.string ⟨s1.toArray⟩):=(Bc hg (o+1)).trans (hcs 1 (by simp));have c2:w.cell? ⟨g,o+2,none⟩=some (.string ⟨s2.toArray⟩):=(Bc hg (o+2)).trans (hcs 2 (by simp));have c3:w.cell? ⟨g,o+3,none⟩=some (.string ⟨s3.toArray⟩):=(Bc hg (o+3)).trans (hcs 3 (by simp));have i6:w.cell? ⟨gi,6,none⟩=some (.int .u32 r.k):=(Bc hI 6).trans rfl;have i7:w.cell? ⟨gi,7,none⟩=some (.int .i64 r.q):=(Bc hI 7).trans rfl;have f6:=Bf hI 6;have f7:=Bf hI 7;have hne':g≠gi:=fun e=>hne e.symm
 have t0:(s0==[110,101])=false:=Bq hs;have t2:(s2==[101,108,115,101])=true:=beq_iff_eq.2 hs2;have hfin:AY r [s0,s1,s2,s3]=({r with q:=BV s3,t:=BV s1},[]):=by simp[AY,hs,hs2]
 rw[hfin];clear hfin;replace hI:=Az hI;replace hg:=Az hg;replace hcs:=Az hcs;replace hs:=Az hs;replace hs2:=Az hs2;go_enter Tryz.func150,Tryz.ntmps150;have hB1:=Az (hb0.setCell (p:=⟨gi,7,none⟩) hgi (.int .i64 (-1)));go_wp2_with fail
 refine(Bp s1 _ hl1 (he.below hB1.out)).mono ?_;rintro e w1 ⟨rfl,hb1⟩;have hI1:=Az (show w1.heap[gi]?=some (.cells (In.cs {r with q := -1}) 126 (0,0)) from Bk hb1 (Bs (hI.out) 7 (.int .i64 (-1))));have hg1:=Az (Bk hb1 (Ba (hg.out) hne' _));have hr1:=Az (BQ (AB (Ch w (some gi)) 7 _) hb1);have i31:w1.cell? ⟨gi,3,none⟩=some (.int .i64 r.t):=(Bc hI1.out 3).trans rfl;have f31:=Bf hI1.out 3;have d2:w1.cell? ⟨g,o+2,none⟩=some (.string ⟨s2.toArray⟩):=(Bc hg1.out (o+2)).trans (hcs.out 2 (by simp));have d3:w1.cell? ⟨g,o+3,none⟩=some (.string ⟨s3.toArray⟩):=(Bc hg1.out (o+3)).trans (hcs.out 3 (by simp));have hB2:=Az ((hB1.out.trans (hb1.mono hB1.out.size)).setCell (p:=⟨gi,3,none⟩) hgi (.int .i64 (BV s1)));go_wp2_with fail
 refine(Bp s3 _ hl3 (he.below hB2.out)).mono ?_;rintro e w2 ⟨rfl,hb2⟩;have hI2:=Az (show w2.heap[gi]?=some (.cells (In.cs {r with q := -1,t:=BV s1}) 126 (0,0)) from Bk hb2 (Bs hI1.out 3 (.int .i64 (BV s1))));have hr2:=Az (BQ (AB hr1.out 3 _) hb2);have i72:w2.cell? ⟨gi,7,none⟩=some (.int .i64 (-1)):=(Bc hI2.out 7).trans rfl;have f72:=Bf hI2.out 7;go_wp2;go_ret;exact⟨_,rfl,.inl ⟨rfl,_,rfl⟩,Bs hI2.out 7 (.int .i64 (BV s3)),AB hr2.out 7 _⟩
theorem RI(gi g o:Nat)(r:In)(s0 s1 s2 s3:List UInt8)(cs:Array Value)(w0 w:World)(he:Env w0)(hb0:Below w0.heap.size w0 w)(hgi:w0.heap.size≤gi)(hne:gi≠g)(hI:w.heap[gi]?=some (.cells r.cs 126 (0,0)))(hs:s0≠[110,101])(hs2:s2≠[101,108,115,101])(hg:w.heap[g]?=some (.cells cs 9 (0,0)))(hcs:∀ j,j<[s0,s1,s2,s3].length→cs[o+j]?=some (.string ⟨([s0,s1,s2,s3].getD j []).toArray⟩))(hl1:s1.length≤4294967280)(hl3:s3.length≤4294967280) :
  Calls Tryz.prog 150 #[.pointer (some ⟨gi,0,none⟩),.slice (some ⟨g,o,none⟩) 4 4] w fun e w' =>
   ∃ v,e=.returned v∧CO w' v (AY r [s0,s1,s2,s3]).2∧w'.heap[gi]?=some (.cells (AY r [s0,s1,s2,s3]).1.cs 126 (0,0))∧w.grownBy w' (some gi):=by
 have c0:w.cell? ⟨g,o,none⟩=some (.string ⟨s0.toArray⟩):=(Bc hg o).trans (hcs 0 (by simp));have c1:w.cell? ⟨g,o+1,none⟩=some (.string ⟨s1.toArray⟩):=(Bc hg (o+1)).trans (hcs 1 (by simp));have c2:w.cell? ⟨g,o+2,none⟩=some (.string ⟨s2.toArray⟩):=(Bc hg (o+2)).trans (hcs 2 (by simp));have c3:w.cell? ⟨g,o+3,none⟩=some (.string ⟨s3.toArray⟩):=(Bc hg (o+3)).trans (hcs 3 (by simp));have i6:w.cell? ⟨gi,6,none⟩=some (.int .u32 r.k):=(Bc hI 6).trans rfl;have i7:w.cell? ⟨gi,7,none⟩=some (.int .i64 r.q):=(Bc hI 7).trans rfl;have f6:=Bf hI 6;have f7:=Bf hI 7;have hne':g≠gi:=fun e=>hne e.symm
 have t0:(s0==[110,101])=false:=Bq hs;have t2:(s2==[101,108,115,101])=false:=Bq hs2;have hfin:AY r [s0,s1,s2,s3]=({r with q := -1,t:=BV s1},[s2,s3]):=by simp[AY,hs,hs2]
 rw[hfin];clear hfin;replace hI:=Az hI;replace hg:=Az hg;replace hcs:=Az hcs;replace hs:=Az hs;replace hs2:=Az hs2;go_enter Tryz.func150,Tryz.ntmps150;have hB1:=Az (hb0.setCell (p:=⟨gi,7,none⟩) hgi (.int .i64 (-1)));go_wp2_with fail
 refine(Bp s1 _ hl1 (he.below hB1.out)).mono ?_;rintro e w1 ⟨rfl,hb1⟩;have hI1:=Az (show w1.heap[gi]?=some (.cells (In.cs {r with q := -1}) 126 (0,0)) from Bk hb1 (Bs (hI.out) 7 (.int .i64 (-1))));have hg1:=Az (Bk hb1 (Ba (hg.out) hne' _));have hr1:=Az (BQ (AB (Ch w (some gi)) 7 _) hb1);have i31:w1.cell? ⟨gi,3,none⟩=some (.int .i64 r.t):=(Bc hI1.out 3).trans rfl;have f31:=Bf hI1.out 3;have d2:w1.cell? ⟨g,o+2,none⟩=some (.string ⟨s2.toArray⟩):=(Bc hg1.out (o+2)).trans (hcs.out 2 (by simp));have d3:w1.cell? ⟨g,o+3,none⟩=some (.string ⟨s3.toArray⟩):=(Bc hg1.out (o+3)).trans (hcs.out 3 (by simp));go_wp2;go_ret;exact⟨_,rfl,.inr ⟨g,o+2,rfl,_,Ba hg1.out hne' _,fun j hj=>by have:=hcs.out (2+j) (by simp at hj ⊢;omega);rw[←Nat.add_assoc]at this;simpa [Nat.add_comm 2 j]using this⟩,Bs hI1.out 3 (.int .i64 (BV s1)),AB hr1.out 3 _⟩
theorem Tt(gi g o:Nat)(r:In)(s0 s1 s2 s3 s4:List UInt8)(cs:Array Value)(w0 w:World)(he:Env w0)(hb0:Below w0.heap.size w0 w)(hgi:w0.heap.size≤gi)(hne:gi≠g)(hI:w.heap[gi]?=some (.cells r.cs 126 (0,0)))(hs:s0=[110,101])(rest:List (List UInt8))(Nn:rest.length≤200000)(hg:w.heap[g]?=some (.cells cs 9 (0,0)))(hcs:∀ j,j<(s0::s1::s2::s3::s4::rest).length→cs[o+j]?=some (.string ⟨((s0::s1::s2::s3::s4::rest).getD j []).toArray⟩))(hl1:s1.length≤4294967280) :
  Calls Tryz.prog 150 #[.pointer (some ⟨gi,0,none⟩),.slice (some ⟨g,o,none⟩) (rest.length+1+1+1+1+1) (rest.length+1+1+1+1+1)] w fun e w' =>
   ∃ v,e=.returned v∧CO w' v (AY r (s0::s1::s2::s3::s4::rest)).2∧w'.heap[gi]?=some (.cells (AY r (s0::s1::s2::s3::s4::rest)).1.cs 126 (0,0))∧w.grownBy w' (some gi):=by
 have c0:w.cell? ⟨g,o,none⟩=some (.string ⟨s0.toArray⟩):=(Bc hg o).trans (hcs 0 (by simp));have c1:w.cell? ⟨g,o+1,none⟩=some (.string ⟨s1.toArray⟩):=(Bc hg (o+1)).trans (hcs 1 (by simp));have c2:w.cell? ⟨g,o+2,none⟩=some (.string ⟨s2.toArray⟩):=(Bc hg (o+2)).trans (hcs 2 (by simp));have c3:w.cell? ⟨g,o+3,none⟩=some (.string ⟨s3.toArray⟩):=(Bc hg (o+3)).trans (hcs 3 (by simp));have i6:w.cell? ⟨gi,6,none⟩=some (.int .u32 r.k):=(Bc hI 6).trans rfl;have i7:w.cell? ⟨gi,7,none⟩=some (.int .i64 r.q):=(Bc hI 7).trans rfl;have f6:=Bf hI 6;have f7:=Bf hI 7;have hne':g≠gi:=fun e=>hne e.symm
 have t0:(s0==[110,101])=true:=beq_iff_eq.2 hs;have hfin:AY r (s0::s1::s2::s3::s4::rest)=({r with q := -1,k:=1,t:=BV s1},s2::s3::s4::rest):=by simp[AY,hs]
 rw[hfin];clear hfin;have hmin:(min 2 ((rest.length:Int)+1+1+1+1+1))=2:=by omega
 replace hI:=Az hI;replace hg:=Az hg;replace hcs:=Az hcs;replace hs:=Az hs;go_enter Tryz.func150,Tryz.ntmps150;have hB1:=Az ((hb0.setCell (p:=⟨gi,7,none⟩) hgi (.int .i64 (-1))).setCell (p:=⟨gi,6,none⟩) hgi (.int .u32 1));go_wp2_with fail
 refine(Bp s1 _ hl1 (he.below hB1.out)).mono ?_;rintro e w1 ⟨rfl,hb1⟩;have hI1:=Az (show w1.heap[gi]?=some (.cells (In.cs {r with q := -1,k:=1}) 126 (0,0)) from Bk hb1 (Bs (Bs (hI.out) 7 (.int .i64 (-1))) 6 (.int .u32 1)));have hg1:=Az (Bk hb1 (Ba (Ba (hg.out) hne' _) hne' _));have hr1:=Az (BQ (AB (AB (Ch w (some gi)) 7 _) 6 _) hb1);have i31:w1.cell? ⟨gi,3,none⟩=some (.int .i64 r.t):=(Bc hI1.out 3).trans rfl;have f31:=Bf hI1.out 3;go_wp2;go_ret;exact⟨_,rfl,.inr ⟨g,o+2,rfl,_,Ba hg1.out hne' _,fun j hj=>by have:=hcs.out (2+j) (by simp at hj ⊢;omega);rw[←Nat.add_assoc]at this;simpa [Nat.add_comm 2 j]using this⟩,Bs hI1.out 3 (.int .i64 (BV s1)),AB hr1.out 3 _⟩
theorem Tu(gi g o:Nat)(r:In)(s0 s1 s2 s3 s4:List UInt8)(cs:Array Value)(w0 w:World)(he:Env w0)(hb0:Below w0.heap.size w0 w)(hgi:w0.heap.size≤gi)(hne:gi≠g)(hI:w.heap[gi]?=some (.cells r.cs 126 (0,0)))(hs:s0≠[110,101])(rest:List (List UInt8))(Nn:rest.length≤200000)(hg:w.heap[g]?=some (.cells cs 9 (0,0)))(hcs:∀ j,j<(s0::s1::s2::s3::s4::rest).length→cs[o+j]?=some (.string ⟨((s0::s1::s2::s3::s4::rest).getD j []).toArray⟩))(hl1:s1.length≤4294967280) :
  Calls Tryz.prog 150 #[.pointer (some ⟨gi,0,none⟩),.slice (some ⟨g,o,none⟩) (rest.length+1+1+1+1+1) (rest.length+1+1+1+1+1)] w fun e w' =>
   ∃ v,e=.returned v∧CO w' v (AY r (s0::s1::s2::s3::s4::rest)).2∧w'.heap[gi]?=some (.cells (AY r (s0::s1::s2::s3::s4::rest)).1.cs 126 (0,0))∧w.grownBy w' (some gi):=by
 have c0:w.cell? ⟨g,o,none⟩=some (.string ⟨s0.toArray⟩):=(Bc hg o).trans (hcs 0 (by simp));have c1:w.cell? ⟨g,o+1,none⟩=some (.string ⟨s1.toArray⟩):=(Bc hg (o+1)).trans (hcs 1 (by simp));have c2:w.cell? ⟨g,o+2,none⟩=some (.string ⟨s2.toArray⟩):=(Bc hg (o+2)).trans (hcs 2 (by simp));have c3:w.cell? ⟨g,o+3,none⟩=some (.string ⟨s3.toArray⟩):=(Bc hg (o+3)).trans (hcs 3 (by simp));have i6:w.cell? ⟨gi,6,none⟩=some (.int .u32 r.k):=(Bc hI 6).trans rfl;have i7:w.cell? ⟨gi,7,none⟩=some (.int .i64 r.q):=(Bc hI 7).trans rfl;have f6:=Bf hI 6;have f7:=Bf hI 7;have hne':g≠gi:=fun e=>hne e.symm
 have t0:(s0==[110,101])=false:=Bq hs;have hfin:AY r (s0::s1::s2::s3::s4::rest)=({r with q := -1,t:=BV s1},s2::s3::s4::rest):=by simp[AY,hs]
 rw[hfin];clear hfin;have hmin:(min 2 ((rest.length:Int)+1+1+1+1+1))=2:=by omega
 replace hI:=Az hI;replace hg:=Az hg;replace hcs:=Az hcs;replace hs:=Az hs;go_enter Tryz.func150,Tryz.ntmps150;have hB1:=Az (hb0.setCell (p:=⟨gi,7,none⟩) hgi (.int .i64 (-1)));go_wp2_with fail
 refine(Bp s1 _ hl1 (he.below hB1.out)).mono ?_;rintro e w1 ⟨rfl,hb1⟩;have hI1:=Az (show w1.heap[gi]?=some (.cells (In.cs {r with q := -1}) 126 (0,0)) from Bk hb1 (Bs (hI.out) 7 (.int .i64 (-1))));have hg1:=Az (Bk hb1 (Ba (hg.out) hne' _));have hr1:=Az (BQ (AB (Ch w (some gi)) 7 _) hb1);have i31:w1.cell? ⟨gi,3,none⟩=some (.int .i64 r.t):=(Bc hI1.out 3).trans rfl;have f31:=Bf hI1.out 3;go_wp2;go_ret;exact⟨_,rfl,.inr ⟨g,o+2,rfl,_,Ba hg1.out hne' _,fun j hj=>by have:=hcs.out (2+j) (by simp at hj ⊢;omega);rw[←Nat.add_assoc]at this;simpa [Nat.add_comm 2 j]using this⟩,Bs hI1.out 3 (.int .i64 (BV s1)),AB hr1.out 3 _⟩
theorem NR(gi g o:Nat)(r:In)(ss:List (List UInt8))(cs:Array Value)(w0 w:World)(he:Env w0)(hb0:Below w0.heap.size w0 w)(hgi:w0.heap.size≤gi)(hne:gi≠g)(hI:w.heap[gi]?=some (.cells r.cs 126 (0,0)))
  (hss:ss≠[])(hl:∀ s∈ss,s.length≤4294967280)(hn:ss.length≤200000)(hg:w.heap[g]?=some (.cells cs 9 (0,0)))(hcs:∀ j,j<ss.length→cs[o+j]?=some (.string ⟨(ss.getD j []).toArray⟩)) :
  Calls Tryz.prog 150 #[.pointer (some ⟨gi,0,none⟩),.slice (some ⟨g,o,none⟩) ss.length ss.length] w fun e w' =>
   ∃ v,e=.returned v∧CO w' v (AY r ss).2∧w'.heap[gi]?=some (.cells (AY r ss).1.cs 126 (0,0))∧w.grownBy w' (some gi):=by
 match ss,hss,hl,hn,hcs with
 |[s0],_,hl,hn,hcs =>
  by_cases h:s0=[110,101]
  ·exact Tm gi g o r s0 cs w0 w he hb0 hgi hne hI h hg hcs
  ·exact Tn gi g o r s0 cs w0 w he hb0 hgi hne hI h hg hcs
 |[s0,s1],_,hl,hn,hcs =>
  have h1:=hl s1 (by simp);by_cases h:s0=[110,101]
  ·exact To gi g o r s0 s1 cs w0 w he hb0 hgi hne hI h hg hcs h1
  ·exact Tp gi g o r s0 s1 cs w0 w he hb0 hgi hne hI h hg hcs h1
 |[s0,s1,s2],_,hl,hn,hcs =>
  have h1:=hl s1 (by simp);by_cases h:s0=[110,101]
  ·exact Tq gi g o r s0 s1 s2 cs w0 w he hb0 hgi hne hI h hg hcs h1
  ·exact Tr gi g o r s0 s1 s2 cs w0 w he hb0 hgi hne hI h hg hcs h1
 |[s0,s1,s2,s3],_,hl,hn,hcs =>
  have h1:=hl s1 (by simp);have h3:=hl s3 (by simp);by_cases h2:s2=[101,108,115,101]
  ·by_cases h:s0=[110,101]
   ·exact RF gi g o r s0 s1 s2 s3 cs w0 w he hb0 hgi hne hI h h2 hg hcs h1 h3
   ·exact RH gi g o r s0 s1 s2 s3 cs w0 w he hb0 hgi hne hI h h2 hg hcs h1 h3
  ·by_cases h:s0=[110,101]
   ·exact RG gi g o r s0 s1 s2 s3 cs w0 w he hb0 hgi hne hI h h2 hg hcs h1 h3
   ·exact RI gi g o r s0 s1 s2 s3 cs w0 w he hb0 hgi hne hI h h2 hg hcs h1 h3
 |s0::s1::s2::s3::s4::rest,_,hl,hn,hcs =>
  have h1:=hl s1 (by simp);have hr:rest.length≤200000:=by simp at hn;omega
  by_cases h:s0=[110,101]
  ·exact Tt gi g o r s0 s1 s2 s3 s4 cs w0 w he hb0 hgi hne hI h rest hr hg hcs h1
  ·exact Tu gi g o r s0 s1 s2 s3 s4 cs w0 w he hb0 hgi hne hI h rest hr hg hcs h1
theorem HP{n:Nat}(h:n≤31):2 ^ n≤2147483648:=Nat.pow_le_pow_right (by decide) h
theorem I2(n:Nat)(hn:n≤31)(w:World):Calls Tryz.prog 172 #[.int .i64 (n:Int)] w fun e w'=>e=.returned (.int .i64 ((2 ^ n:Nat):Int))∧Below w.heap.size w w':=by
 have b0:=Below.refl w.heap.size w;replace b0:=Az b0;go_enter Tryz.func172,Tryz.ntmps172;go_wp2_with fail
 go_loopw [3,4] (fun v3 v4 wr=>∃ i:Nat,v3=.int .i64 ((2 ^ i:Nat):Int)∧v4=.int .i64 (i:Int)∧i≤n∧wr=w) (fun v3 v4 _=>n-(intOf v4).toNat)
 case atStart=>exact⟨0,rfl,rfl,Nat.zero_le _,rfl⟩
 case round =>
  obtain⟨i,rfl,rfl,hi,rfl⟩:=hrel;by_cases hlt:i<n
  ·have k1:(i:Int)<(n:Int):=by omega
   have kw:IntKind.i64.wrap ((i:Int)+1)=(i:Int)+1:=by rw[IntKind.wrap_i64];omega
   have hp:=HP (n:=i+1) (by omega);have e2:2 ^ (i+1)=2 ^ i*2:=Nat.pow_succ 2 i;obtain⟨x,hx⟩:∃ x,2 ^ i=x:=⟨_,rfl⟩
   rw[hx]at e2 ⊢;have kp:IntKind.i64.wrap ((x:Int)*2)=(x:Int)*2:=by rw[IntKind.wrap_i64];omega
   go_wp2;go_roundw
   case rel=>exact⟨i+1,by rw[e2];go_num,by go_num,hlt,trivial⟩
   case measure=>simp[intOf];omega
  ·obtain rfl:i=n:=by omega
   have e1:¬(i:Int)<(i:Int):=by omega
   go_wp2;go_ret;exact⟨rfl,b0.out⟩
def Eb(a b:Nat)(both:Bool):Nat→Nat
 |0=>0
 |i+1=>Eb a b both i+(if (if both=true then a/2 ^ i%2+b/2 ^ i%2=2 else a/2 ^ i%2+b/2 ^ i%2 > 0) then 2 ^ i else 0)
theorem JZ(a b:Nat):∀ i:Nat,Eb a b true i=(a &&& b)%2 ^ i
 |0=>by simp[Eb,Nat.mod_one]
 |i+1=>by
  rw[Eb,JZ a b i,Nat.mod_pow_succ]
  congr 1
  have h:=Nat.toNat_testBit (a &&& b) i;have ha:=Nat.toNat_testBit a i;have hb:=Nat.toNat_testBit b i;rw[Nat.testBit_and]at h;rw[←h,←ha,←hb];cases a.testBit i<;>cases b.testBit i<;>simp
theorem LN(a b:Nat):∀ i:Nat,Eb a b false i=(a ||| b)%2 ^ i
 |0=>by simp[Eb,Nat.mod_one]
 |i+1=>by
  rw[Eb,LN a b i,Nat.mod_pow_succ]
  congr 1
  have h:=Nat.toNat_testBit (a ||| b) i;have ha:=Nat.toNat_testBit a i;have hb:=Nat.toNat_testBit b i;rw[Nat.testBit_or]at h;rw[←h,←ha,←hb];cases a.testBit i<;>cases b.testBit i<;>simp
theorem OU(a b:Nat)(both:Bool)(i:Nat):Eb a b both i<2 ^ i:=by
 cases both
 ·rw[LN];exact Nat.mod_lt _ (Nat.two_pow_pos i)
 ·rw[JZ];exact Nat.mod_lt _ (Nat.two_pow_pos i)
theorem Oo{a b:Nat}(ha:a<4294967296):Eb a b true 32=Nat.land a b:=by
 rw[JZ];exact Nat.mod_eq_of_lt (Nat.lt_of_le_of_lt Nat.and_le_left ha)
theorem Qd{a b:Nat}(ha:a<4294967296)(hb:b<4294967296):Eb a b false 32=Nat.lor a b:=by
 rw[LN];exact Nat.mod_eq_of_lt (Nat.or_lt_two_pow (n:=32) ha hb)
theorem wrap_small{x:Nat}(h:x<4294967296):IntKind.i64.wrap (x:Int)=(x:Int)∧wrap64 (x:Int)=(x:Int):=⟨by rw[IntKind.wrap_i64];omega,by unfold wrap64;omega⟩
theorem HQ{w W W':World}(hb:Below W.heap.size W W')(h:Ag (Below w.heap.size w W)):Ag (Below w.heap.size w W'):=⟨h.out.trans (hb.mono h.out.size)⟩
theorem Ka(a b:Nat)(both:Bool)(ha:a<4294967296)(hb:b<4294967296)(w:World):Calls Tryz.prog 171 #[.int .i64 (a:Int),.int .i64 (b:Int),.int .i64 (bif both then 1 else 0)] w fun e w'=>e=.returned (.int .i64 (Eb a b both 32:Nat))∧Below w.heap.size w w':=by
 have b0:=Az (Below.refl w.heap.size w);obtain⟨bo,hbo⟩:∃ x:Int,(bif both then 1 else 0)=x:=⟨_,rfl⟩
 rw[hbo];go_enter Tryz.func171,Tryz.ntmps171;go_wp2_with fail
 go_loopw [7,8] (fun v7 v8 wr=>∃ i:Nat,v7=.int .i64 (Eb a b both i:Nat)∧v8=.int .i64 (i:Int)∧i≤32∧Ag (Below w.heap.size w wr)) (fun v7 v8 _=>32-(intOf v8).toNat)
 case atStart=>exact⟨0,rfl,rfl,Nat.zero_le _,b0⟩
 case round =>
  obtain⟨i,rfl,rfl,hi,hB⟩:=hrel;clear b0;by_cases hlt:i<32
  ·have k1:(i:Int)<32:=by omega
   have kw:IntKind.i64.wrap ((i:Int)+1)=(i:Int)+1:=by rw[IntKind.wrap_i64];omega
   have hp:=HP (n:=i) (by omega);have hs:Eb a b both (i+1)=Eb a b both i+(if (if both=true then a/2 ^ i%2+b/2 ^ i%2=2 else a/2 ^ i%2+b/2 ^ i%2 > 0) then 2 ^ i else 0):=rfl;have hl:=OU a b both (i+1);have hl0:=OU a b both i;have hpo:=Nat.two_pow_pos i;have C:=Az (fun W=>I2 i (by omega) W);rw[Nat.pow_succ]at hl;obtain⟨y,hy⟩:∃ x,Eb a b both i=x:=⟨_,rfl⟩
   obtain⟨y1,hy1⟩:∃ x,Eb a b both (i+1)=x:=⟨_,rfl⟩
   obtain⟨x,hx⟩:∃ x,2 ^ i=x:=⟨_,rfl⟩
   rw[hy1]at hl;rw[hy,hy1,hx]at hs;rw[hx]at hl hl0 hp hpo C;rw[hy]at hl0 ⊢;have q1:Int.tdiv (a:Int) (x:Int)=((a/x:Nat):Int):=rfl;have q2:Int.tdiv (b:Int) (x:Int)=((b/x:Nat):Int):=rfl;have q3:Int.tmod ((a/x:Nat):Int) 2=((a/x%2:Nat):Int):=rfl;have q4:Int.tmod ((b/x:Nat):Int) 2=((b/x%2:Nat):Int):=rfl;have xz:((x:Int)==0)=false:=Bq (by omega);have xz2:¬(x:Int)=0:=by omega
   have xz3:¬x=0:=by omega
   have ab1:a/x≤a:=Nat.div_le_self a x;have ab2:b/x≤b:=Nat.div_le_self b x;generalize hA:a/x=A at *;generalize hBq:b/x=Bq at *;obtain⟨a2,ha2⟩:∃ z,A%2=z:=⟨_,rfl⟩
   obtain⟨b2,hb2⟩:∃ z,Bq%2=z:=⟨_,rfl⟩
   have hla:a2<2:=by omega
   have hlb:b2<2:=by omega
   rw[ha2]at q3 hs;rw[hb2]at q4 hs;obtain⟨qa2,qa⟩:=wrap_small (x:=A) (Nat.lt_of_le_of_lt ab1 ha);obtain⟨qb2,qb⟩:=wrap_small (x:=Bq) (Nat.lt_of_le_of_lt ab2 hb);replace hy1:=Az hy1;clear hA hBq ha2 hb2 hx hy ha hb;have hS:Ag (Below w.heap.size w wr.drew):=⟨Bd hB.out⟩
   go_wp2_with fail
   go_region_held3 (fun W=>Ag (Below w.heap.size w W)) (first |exact hS |exact HQ hb (by assumption))
    (first |(go_at_call 172;(with_reducible refine(C.out _).mono ?_);rintro e w' ⟨rfl,hb⟩))
   replace hS:=(by assumption:Ag (Below w.heap.size w _))
   have c2:a2=0∨a2=1:=by omega
   have c3:b2=0∨b2=1:=by omega
   have ky:IntKind.i64.wrap ((y:Int)+(x:Int))=(y:Int)+(x:Int):=by rw[IntKind.wrap_i64];omega
   have ob:(bo==1)=both∧(bo==0)=!both:=by rw[←hbo];cases both<;>exact⟨rfl,rfl⟩
   obtain⟨o1,o0⟩:=ob;clear hbo;cases both<;>simp only[Bool.not_true,Bool.not_false]at o0<;>rcases c2 with rfl |rfl<;>rcases c3 with rfl |rfl<;>simp at hs
   ·subst hs;go_wp2_with fail
    clear C;go_roundw
    case rel=>exact⟨i+1,by rw[hy1.out],by go_num,hlt,hS⟩
    case measure=>simp[intOf];omega
   ·subst hs;go_wp2_with fail
    refine(C.out _).mono ?_;rintro e w9 ⟨rfl,hb9⟩;replace hS:=HQ hb9 hS;clear C;go_wp2;go_roundw
    case rel=>exact⟨i+1,by rw[hy1.out];go_num,by go_num,hlt,hS⟩
    case measure=>simp[intOf];omega
   ·subst hs;go_wp2_with fail
    refine(C.out _).mono ?_;rintro e w9 ⟨rfl,hb9⟩;replace hS:=HQ hb9 hS;clear C;go_wp2;go_roundw
    case rel=>exact⟨i+1,by rw[hy1.out];go_num,by go_num,hlt,hS⟩
    case measure=>simp[intOf];omega
   ·subst hs;go_wp2_with fail
    refine(C.out _).mono ?_;rintro e w9 ⟨rfl,hb9⟩;replace hS:=HQ hb9 hS;clear C;go_wp2;go_roundw
    case rel=>exact⟨i+1,by rw[hy1.out];go_num,by go_num,hlt,hS⟩
    case measure=>simp[intOf];omega
   ·subst hs;go_wp2_with fail
    clear C;go_roundw
    case rel=>exact⟨i+1,by rw[hy1.out],by go_num,hlt,hS⟩
    case measure=>simp[intOf];omega
   ·subst hs;go_wp2_with fail
    clear C;go_roundw
    case rel=>exact⟨i+1,by rw[hy1.out],by go_num,hlt,hS⟩
    case measure=>simp[intOf];omega
   ·subst hs;go_wp2_with fail
    clear C;go_roundw
    case rel=>exact⟨i+1,by rw[hy1.out],by go_num,hlt,hS⟩
    case measure=>simp[intOf];omega
   ·subst hs;go_wp2_with fail
    refine(C.out _).mono ?_;rintro e w9 ⟨rfl,hb9⟩;replace hS:=HQ hb9 hS;clear C;go_wp2;go_roundw
    case rel=>exact⟨i+1,by rw[hy1.out];go_num,by go_num,hlt,hS⟩
    case measure=>simp[intOf];omega
  ·obtain rfl:i=32:=by omega
   have e1:¬((32:Nat):Int)<32:=by omega
   go_wp2;go_ret;exact⟨rfl,hB.out⟩
theorem Qe(a b:Nat)(ha:a<4294967296)(hb:b<4294967296)(w:World):Calls Tryz.prog 171 #[.int .i64 (a:Int),.int .i64 (b:Int),.int .i64 1] w fun e w'=>e=.returned (.int .i64 (Nat.land a b:Nat))∧Below w.heap.size w w':=by
 rw[←Oo (b:=b) ha];exact Ka a b true ha hb w
theorem Sg(a b:Nat)(ha:a<4294967296)(hb:b<4294967296)(w:World):Calls Tryz.prog 171 #[.int .i64 (a:Int),.int .i64 (b:Int),.int .i64 0] w fun e w'=>e=.returned (.int .i64 (Nat.lor a b:Nat))∧Below w.heap.size w w':=by
 rw[←Qd ha hb];exact Ka a b false ha hb w
end
end Go.Proofs.YtjjpiefgdggghaaGreatDoor

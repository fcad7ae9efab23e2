/- Parts: Named, Text, Parse. -/
import Derived.Test.YtjjpiefgdggghaaGreatDoorZ02
import Derived.Test.YtjjpiefgdggghaaGreatDoorZ06
import Derived.Test.YtjjpiefgdggghaaGreatDoorZ04
import Derived.Test.YtjjpiefgdggghaaGreatDoorZ09
import Derived.Test.YtjjpiefgdggghaaGreatDoorZ13
import Derived.Test.YtjjpiefgdggghaaGreatDoorZ12
set_option linter.unusedVariables false
set_option linter.unusedSimpArgs false
set_option maxRecDepth 100000
set_option maxHeartbeats 40000000
namespace Go.Proofs.YtjjpiefgdggghaaGreatDoor
section
open Go.RowKit Go.Proofs.YtjjpiefgdggghaaGreatDoorW.PrintWords
theorem Jv(l:List UInt8)(w:World) :
  Calls Tryz.prog 146 #[.string ⟨l.toArray⟩] w fun e w'=>e=.returned (.int .i64 (FJ l))∧Below w.heap.size w w':=by
 generalize hf:FJ l=fin;have HF:=Az (show Fy l 23 1=fin from hf);clear hf;go_enter Tryz.func146,Tryz.ntmps146;go_wp2;go_loopw [3] (fun v wr=>∃ n:Nat,v=.int .i64 (24-n)∧n≤23∧Ai (Fy l n (24-n)=fin)∧Ai (Below w.heap.size w wr)) (fun v wr=>(24-(intOf v)).toNat)
 case atStart=>exact⟨23,rfl,Nl _,HF,⟨Below.refl _ _⟩⟩
 case round =>
  obtain⟨n,rfl,hn,hG,hB⟩:=hrel;cases n with
  |zero =>
   have hfin:(0:Int)=fin:=hG.out;replace hfin:=Az hfin;go_wp2;go_ret;exact⟨KQ hfin.out,hB.out⟩
  |succ n =>
   have hle:(24-((n+1:Nat):Int))≤23:=by omega
   have hz:=hB.out.size;have hst:fin=if Ag (24-((n+1:Nat):Int))=l∧l≠[] then (24-((n+1:Nat):Int)) else Fy l n (24-((n+1:Nat):Int)+1):=hG.out.symm
   have hnx:(24-((n+1:Nat):Int)+1)=24-(n:Int):=by omega
   generalize hop:(24-((n+1:Nat):Int))=op at hle hst hnx ⊢;have hop':op≤23∧0≤op:=by omega
   replace hop:=Az hop;replace hnx:=Az hnx;obtain⟨ho1,ho2⟩:=hop';clear hG;replace hst:=Az hst;go_wp2_with fail
   refine(E8 _ _).mono ?_;rintro e w1 ⟨rfl,hb⟩;go_wp2_with fail
   ·have h1:Ag op=l:=by assumption
    have h2:(!l.isEmpty)=true:=by assumption
    go_ret;exact⟨KQ (hst.out.trans (if_pos ⟨h1,by intro e;rw[e]at h2;simp at h2⟩)).symm,((hB.out.trans (hb.mono hz)).alloc (Nat.le_trans hz hb.size) _)⟩
   ·have h1:Ag op=l:=by assumption
    have h2:(!l.isEmpty)=false:=by assumption
    exact⟨⟨n,by rw[hnx.out],by omega,⟨by rw[←hnx.out];exact(hst.out.trans (if_neg (fun h=>by rw[Bool.not_eq_false']at h2;exact h.2 (List.isEmpty_iff.1 h2)))).symm⟩,⟨((hB.out.trans (hb.mono hz)).alloc (Nat.le_trans hz hb.size) _)⟩⟩,by simp[intOf];omega⟩
   ·have h1:¬Ag op=l:=by assumption
    exact⟨⟨n,by rw[hnx.out],by omega,⟨by rw[←hnx.out];exact(hst.out.trans (if_neg (fun h=>h1 h.1))).symm⟩,⟨((hB.out.trans (hb.mono hz)).alloc (Nat.le_trans hz hb.size) _)⟩⟩,by simp[intOf];omega⟩
end
section
open Go
theorem FC(v:Int)(h:v≤9223372036854775807):(dec v).length≤20:=Cj _ (by omega)
theorem I3(i:In)(hf:i.fits)(s:Int):∀ w∈Bt i s,w.length≤21:=by
 have h1:=FC i.a (by have:=hf.a;omega);have h2:=FC i.q (by have:=hf.q;omega);have h3:=FC i.t (by have:=hf.t;omega);have h4:=FC i.k (by have:=hf.k;omega);have h5:∀ j,(dec (i.get j)).length≤20:=fun j=>FC _ (by have:=hf.get j;omega)
 unfold Bt;cases Ap s with
 |some j =>
  dsimp only;intro w hw;have:=h5 j;by_cases h:j=5
  ·rw[if_pos h]at hw;simp at hw;subst hw;omega
  ·rw[if_neg h]at hw;simp at hw;subst hw;simp;omega
 |none =>
  dsimp only;intro w hw;by_cases h:s=80
  ·rw[if_pos h]at hw;simp at hw;subst hw;omega
  by_cases h':s=87
  ·rw[if_neg h,if_pos h']at hw;by_cases hq:i.q = -1
   ·rw[if_pos hq]at hw;simp at hw;rcases hw with rfl |rfl
    ·split<;>simp
    ·simp;omega
   ·rw[if_neg hq]at hw;simp at hw;rcases hw with rfl |rfl |rfl |rfl
    ·split<;>simp
    ·simp;omega
    ·simp
    ·omega
  rw[if_neg h,if_neg h']at hw;simp at hw;subst hw;omega
theorem J3(sep:List UInt8)(n:Nat):∀ (l:List (List UInt8)),(∀ w∈l,w.length≤n)→(Lib.joinTail sep l).length≤l.length*(n+sep.length)
 |[],_=>by simp[Lib.joinTail]
 |x::l,h=>by
  have h1:=h x (List.mem_cons_self ..);have h2:=J3 sep n l (fun w hw=>h w (List.mem_cons_of_mem _ hw));simp only[Lib.joinTail,List.map_cons,List.flatten_cons,List.length_append,List.length_cons]at h2 ⊢;rw[Nat.add_mul];omega
theorem J4(f:UInt8→List (List UInt8))(n:Nat)(h:∀ c,(f c).length≤n):∀ l:List UInt8,(l.map f).flatten.length≤l.length*n
 |[]=>by simp
 |c::l=>by
  have:=J4 f n h l;have:=h c;simp only[List.map_cons,List.flatten_cons,List.length_append,List.length_cons];rw[Nat.add_mul];omega
theorem K3(op:Int):(Ag op).length≤5:=by
 unfold Ag;repeat (refine KH (by decide) ?_)
 decide
theorem LI(i:In)(hf:i.fits):(AO i).length≤600:=by
 unfold AO GG;rw[Lib.join_cons,List.length_append];have h1:=K3 i.op;have h2:=J4 (fun c=>Bt i (c.toNat:Int)) 4 (fun c=>GH i _) (AK i.op);have h3:=EU i.op;have h4:=J3 [32] 21 ((AK i.op).map fun c=>Bt i (c.toNat:Int)).flatten (fun w hw=>by
  rw[List.mem_flatten]at hw;obtain⟨l,hl,hw⟩:=hw;rw[List.mem_map]at hl;obtain⟨c,_,rfl⟩:=hl;exact I3 i hf _ w hw)
 simp only[List.length_cons,List.length_nil]at h4;have h5:((AK i.op).map fun c=>Bt i (c.toNat:Int)).flatten.length≤20:=by omega
 have h6:=Nat.mul_le_mul_right (21+(0+1)) h5;omega
end
section
open Go.RowKit Go.Proofs.YtjjpiefgdggghaaGreatDoorW.PrintWords
theorem I4{i:In}{sg:Int}{j:Nat}(h:Ap sg=some j):Bt i sg=if j=5 then [dec i.a] else [114::dec (i.get j)]:=by
 unfold Bt;rw[h]
theorem K4{i:In}{sg:Int}(h:Ap sg=none)(h80:sg≠80)(h87:sg≠87):Bt i sg=[dec i.k]:=by
 unfold Bt;rw[h];dsimp only;rw[if_neg h80,if_neg h87]
theorem QX(W:World):(Instr.index 234 (.agg #[.string ⟨#[101,113]⟩,.string ⟨#[110,101]⟩]) (.int .u32 0)).run Tryz.prog W=.ok (.string ⟨#[101,113]⟩) W:=by kernel_rfl
theorem QY(W:World):(Instr.index 234 (.agg #[.string ⟨#[101,113]⟩,.string ⟨#[110,101]⟩]) (.int .u32 1)).run Tryz.prog W=.ok (.string ⟨#[110,101]⟩) W:=by kernel_rfl
theorem J5(i:In)(hf:i.fits)(sg:Int)(hq80:sg=80→0≤i.q)(w:World)(he:Env w) :
  Calls Tryz.prog 169 #[i.v,.int .u8 sg] w fun e w' =>
   ∃ g c,e=.returned (.slice (some ⟨g,0,none⟩) (Bt i sg).length c)∧w.heap.size≤g∧Dd w' g c (Bt i sg)∧Below w.heap.size w w':=by
 cases i with
 |mk op d s t u a k q =>
  cases hfo:Ap sg with
  |some j =>
   by_cases h5:j=5
   ·have h65:sg=65:=by
     rcases BM hfo with ⟨rfl,h⟩ |⟨rfl,h⟩ |⟨rfl,h⟩ |⟨rfl,h⟩ |⟨rfl,h⟩<;>omega
    subst h65;exact JV op d s t u a k q w hf.a
   ·rw[I4 hfo,if_neg h5];exact KZ op d s t u a k q sg j _ w hfo h5 rfl (hf.get j)
  |none =>
   by_cases h80:sg=80
   ·subst h80;have hq:=hf.q;exact IX op d s t u a k q w he ⟨hq80 rfl,hq.2⟩
   ·by_cases h87:sg=87
    ·subst h87;have hq:=hf.q;have hk:=hf.k;simp only at hq hk;have hi:∃ wd:List UInt8,(if k=0 then [101,113] else [110,101])=wd∧∀ W,(Instr.index 234 (.agg #[.string ⟨#[101,113]⟩,.string ⟨#[110,101]⟩]) (.int .u32 (min k 1))).run Tryz.prog W=.ok (.string ⟨wd.toArray⟩) W:=by
      by_cases h0:k=0
      ·refine⟨_,rfl,?_⟩;rw[if_pos h0,h0,show min (0:Int) 1=0 from rfl];exact QX
      ·refine⟨_,rfl,?_⟩;rw[if_neg h0,show min k 1=1 by omega];exact QY
     obtain⟨wd,hwd,hi⟩:=hi;by_cases h1:q = -1
     ·have e:Bt ⟨op,d,s,t,u,a,k,q⟩ 87=[wd,114::dec t]:=by
       show(if k=0 then [101,113] else [110,101])::(114::dec t)::(if q = -1 then [] else [[101,108,115,101],dec q])=_
       rw[if_pos h1,hwd]
      rw[e];exact Hw op d s t u a k q wd w he hf.t h1 hi
     ·have e:Bt ⟨op,d,s,t,u,a,k,q⟩ 87=[wd,114::dec t,[101,108,115,101],dec q]:=by
       show(if k=0 then [101,113] else [110,101])::(114::dec t)::(if q = -1 then [] else [[101,108,115,101],dec q])=_
       rw[if_neg h1,hwd]
      rw[e];exact Hx op d s t u a k q wd w he hf.t (by omega) hi
    ·rw[K4 hfo h80 h87];exact La op d s t u a k q sg w he hf.k hfo h80 h87 (fun e=>by rw[e]at hfo;cases hfo)
theorem LJ(f:UInt8→List (List UInt8))(l:List UInt8)(k:Nat)(h:k<l.length) :
  ((l.take (k+1)).map f).flatten=((l.take k).map f).flatten++f (l.getD k 0):=by
 rw[List.take_succ_eq_append_getElem h,List.map_append,List.flatten_append];simp[List.getD_eq_getElem?_getD,List.getElem?_eq_getElem h]
theorem By.byte{w:World}{g:Nat}{e:TypeId}{l:List UInt8}(h:By w g e l)(k:Nat)(hk:k<l.length):w.cell? ⟨g,k,none⟩=some (.int .u8 ((l.getD k 0).toNat:Int)):=by
 obtain⟨_,_,_,h2⟩:=h;exact h2 k hk
theorem MX{l:List UInt8}{k:Nat}(h:k<l.length):l.getD k 0∈l:=by
 simp[List.getD_eq_getElem?_getD,List.getElem?_eq_getElem h]
theorem Dd.cells{w:World}{g c:Nat}{ss:List (List UInt8)}(h:Dd w g c ss):∀ j u,(ss.map fun l=>Value.string ⟨l.toArray⟩)[j]?=some u→w.cell? ((⟨g,0,none⟩:Addr).add j)=some u:=fun j u hj=>by
 obtain⟨cur,hb,hl,hm,hs,ht⟩:=h;rw[add_plain];refine(Bc hb j).trans ?_;rw[←ht]at hj;rw[List.getElem?_take]at hj;split at hj
 ·rw[←Array.getElem?_toList];exact hj
 ·cases hj
def DR(ss:List (List UInt8)):List Value:=ss.map fun l=>Value.string ⟨l.toArray⟩
theorem K5(op d s t u a k q:Int)(w:World)(he:Env w)(hr:Av ⟨op,d,s,t,u,a,k,q⟩ 1073741824=true)(hwk:0≤k∧k≤4294967295) :
  Calls Tryz.prog 151 #[.agg #[.int .i64 op,.int .i64 d,.int .i64 s,.int .i64 t,.int .i64 u,.int .i64 a,.int .u32 k,.int .i64 q]] w fun e w' =>
   e=.returned (.tuple #[.string ⟨(AO ⟨op,d,s,t,u,a,k,q⟩).toArray⟩,.int .i64 0])∧Below w.heap.size w w':=by
 have hfit:=Ga hr hwk;have hq80:=Je hr;have HR:=Az (FY ⟨op,d,s,t,u,a,k,q⟩ 1073741824 hwk);have hl5:=EU op;have HT:=Az (Eq.refl (AO ⟨op,d,s,t,u,a,k,q⟩));replace hr:=Az hr;replace hq80:=Az hq80;have kb:=fun W=>E7 (P:=Tryz.prog) 9 142 5 Tryz.underlying9 Tryz.underlying142 Tryz.underlying5 ⟨(AK op).toArray⟩ W
 go_enter Tryz.func151,Tryz.ntmps151;go_wp2_with fail
 refine(HR.out _).mono ?_;rintro e w1 ⟨rfl,hb1⟩;rw[hr.out];have BK:=Az (Bk hb1 (Bv w _));have z1:w.heap.size<w1.heap.size:=Bl BK.out;have c0:w1.cell? ⟨w.heap.size,0,none⟩=some (.int .i64 op):=(Bc BK.out 0).trans rfl;go_wp2_with fail
 refine(E8 _ _).mono ?_;rintro e w2 ⟨rfl,hb2⟩;have OB:=hb2.size;replace BK:=Az (Bk hb2 BK.out);go_wp2_with fail
 clear c0 kb;generalize grownCap _ _ _ _=cap;obtain⟨i9,hi,hz0,hz1,hz2⟩:=info_parts E3;replace hi:=Az hi;replace hz0:=Az hz0;replace hz1:=Az hz1;replace hz2:=Az hz2;have hB2:=Az ((((Below.refl w.heap.size w).alloc (Nl _) (.cells (In.cs ⟨op,d,s,t,u,a,k,q⟩) 126)).trans (hb1.mono (by simp))).trans (hb2.mono (by omega)));have hB3:=Az (DH ((hB2.out.alloc (by omega) (.cells #[.string ⟨(Ag op).toArray⟩,.string ⟨(AK op).toArray⟩] 198)).alloc (by simp;omega) (.cells #[.string ⟨(Ag op).toArray⟩] 9)) (by simp;omega) 5 ⟨(AK op).toArray⟩);have hBy:=Az (By.new ((w2.alloc (.cells #[.string ⟨(Ag op).toArray⟩,.string ⟨(AK op).toArray⟩] 198)).alloc (.cells #[.string ⟨(Ag op).toArray⟩] 9)) 5 (AK op) (w2.heap.size+1+1) (by simp) (by omega));have hBK:=Az (Dv (As (As BK.out (.cells #[.string ⟨(Ag op).toArray⟩,.string ⟨(AK op).toArray⟩] 198)) (.cells #[.string ⟨(Ag op).toArray⟩] 9)) 5 ⟨(AK op).toArray⟩);have hRw:=Az (Dv (Cx w2 (.cells #[.string ⟨(Ag op).toArray⟩,.string ⟨(AK op).toArray⟩] 198) (.cells #[.string ⟨(Ag op).toArray⟩] 9)) 5 ⟨(AK op).toArray⟩);go_loopw [5,21] (fun v5 v21 wr=>∃ (kk:Nat) (ss:List (List UInt8)),v21=.int .i64 kk∧kk≤(AK op).length∧Ai (ss=Ag op::(((AK op).take kk).map fun c=>Bt ⟨op,d,s,t,u,a,k,q⟩ (c.toNat:Int)).flatten) ∧
  Ai (wr.ownsRow w.heap.size 9 1 v5 ss.length (DR ss))∧Ai (wr.heap[w.heap.size]?=some (.cells (In.cs ⟨op,d,s,t,u,a,k,q⟩) 126 (0,0)))∧Ai (By wr (w2.heap.size+1+1) 5 (AK op)) ∧
  Ai (Below w.heap.size w wr)∧ss.length≤1+4*kk∧1≤ss.length) (fun _ v21 wr=>(AK op).length-(intOf v21).toNat)
 case atStart =>
  exact⟨0,[Ag op],rfl,Nat.zero_le _,⟨by simp⟩,⟨rfl,.inr ⟨w2.heap.size+1,1,_,rfl,by omega,hRw.out,Nl _,by simp[maxLen],rfl,rfl⟩⟩,hBK,hBy,hB3,by simp,by simp⟩
 case round =>
  clear hBK hBy hB3 hRw hB2 BK;obtain⟨kk,ss,rfl,hkk,hss,hown,hBK,hBy,hB,hlen,hpos⟩:=hrel;by_cases hlt:kk<(AK op).length
  ·have hby:=hBy.out.byte kk hlt;have hz:=hB.out.size;have he':=he.below hB.out;have c0:wr.cell? ⟨w.heap.size,0,none⟩=some (.int .i64 op):=(Bc hBK.out 0).trans rfl;have c1:wr.cell? ⟨w.heap.size,1,none⟩=some (.int .i64 d):=(Bc hBK.out 1).trans rfl;have c2:wr.cell? ⟨w.heap.size,2,none⟩=some (.int .i64 s):=(Bc hBK.out 2).trans rfl;have c3:wr.cell? ⟨w.heap.size,3,none⟩=some (.int .i64 t):=(Bc hBK.out 3).trans rfl;have c4:wr.cell? ⟨w.heap.size,4,none⟩=some (.int .i64 u):=(Bc hBK.out 4).trans rfl;have c5:wr.cell? ⟨w.heap.size,5,none⟩=some (.int .i64 a):=(Bc hBK.out 5).trans rfl;have c6:wr.cell? ⟨w.heap.size,6,none⟩=some (.int .u32 k):=(Bc hBK.out 6).trans rfl;have c7:wr.cell? ⟨w.heap.size,7,none⟩=some (.int .i64 q):=(Bc hBK.out 7).trans rfl;have hm80:(((AK op).getD kk 0).toNat:Int)=80→0≤q:=fun e=>hq80.out (by
    have e':(AK op).getD kk 0=80:=UInt8.toNat_inj.1 (Int.ofNat_inj.1 e);rw[←e'];exact MX hlt)
   have htf:=Az (LJ (fun c=>Bt ⟨op,d,s,t,u,a,k,q⟩ (c.toNat:Int)) (AK op) kk hlt);have hw4:=GH ⟨op,d,s,t,u,a,k,q⟩ (((AK op).getD kk 0).toNat:Int);generalize hs0:(((AK op).getD kk 0).toNat:Int)=sg at hby hm80 htf hw4;clear hs0;replace hm80:=Az hm80;go_wp2_with fail
   refine(J5 ⟨op,d,s,t,u,a,k,q⟩ hfit sg hm80.out _ he').mono ?_;rintro e w3 ⟨g,c,rfl,hg,hrow,hb3⟩;have hown3:=Az (F2 hown.out hb3);have hbs3:=hb3.size;have hca:=Az hrow.cells;clear hrow;generalize hwd:Bt ⟨op,d,s,t,u,a,k,q⟩ sg=wd at htf hw4 hca;replace hwd:=Az hwd;go_wp2_with ((at_builtin;refine wpList_append_own _ rfl (.tmp 25) (.tmp 28) 108 rfl w.heap.size 9 i9 (.string ⟨#[]⟩) 1 16 Tryz.underlying108 hi.out hz0.out hz1.out hz2.out rfl (by decide) u5 ss.length (DR ss) rfl hown3.out ⟨g,0,none⟩ wd.length c (DR wd) rfl ?c1 hca.out ?c2 ?c3 ?c4 ?c5 ?_))
   case c1=>simp[DR]
   case c2=>simp[DR,Value.oneCell']
   case c3=>simp only[maxLen];omega
   case c4=>omega
   case c5=>omega
   intro v' w4 hown' hgr hnil;have hbs4:=hgr.size;have hne1:=Az (Oa hown3.out (Bk hb3 hBK.out) (show 9≠126 by decide));have hne2:=Az ((hBy.out.keep hb3).own hown3.out (show 9≠5 by decide));have hbe:=Az ((hB.out.trans (hb3.mono (by omega))).grown hgr (by omega) (fun k hk=>Ob hown3.out k hk));have hBK':=Az (Bg (Bk hb3 hBK.out) hgr hne1.out);have hBy':=Az ((hBy.out.keep hb3).grown hgr hne2.out);replace hown':=Az hown';clear hgr hnil hown hown3 hBK hBy hca hb3 hB c0 c1 c2 c3 c4 c5 c6 c7 hby;go_wp2;go_roundw
   case rel =>
    refine⟨kk+1,ss++wd,by go_num,by omega,⟨?_⟩,⟨?_⟩,hBK',hBy',hbe,by simp;omega,by simp;omega⟩
    ·rw[htf.out,←List.cons_append,←hss.out]
    ·have:=hown'.out
     simpa [DR]using this
   case measure=>simp[intOf];omega
  ·have hkl:kk=(AK op).length:=by omega
   have hfin:GG ⟨op,d,s,t,u,a,k,q⟩=ss:=by
    rw[hss.out,hkl,List.take_length];rfl
   obtain⟨hl1,hc1⟩:=hown.out;have hc2:∃ g cap cur,u5=.slice (some ⟨g,0,none⟩) ss.length cap∧w.heap.size≤g∧wr.heap[g]?=some (.cells cur 9 (0,0))∧ss.length≤cap∧cap≤maxLen∧cur.size=cap*1∧cur.toList.take (ss.length*1)=DR ss:=by
    rcases hc1 with ⟨_,h⟩ |h
    ·omega
    ·exact h
   obtain⟨g,cap,cur,hv,hg,hblk,hle,hml,hcs,htk⟩:=hc2;clear hc1;rw[hv];have hcells:∀ (j:Nat) x,(ss.map fun l=>(⟨l.toArray⟩:ByteArray))[j]?=some x→wr.cell? ⟨g,0+j,none⟩=some (.string x):=fun j x hj=>by
    have:=(Dd.cells ⟨cur,hblk,hle,hml,by omega,by simpa [DR]using htk⟩:∀ j u,(ss.map fun l=>Value.string ⟨l.toArray⟩)[j]?=some u→_) j (.string x) (by
     rw[List.getElem?_map]at hj ⊢;cases hs:ss[j]? with
     |none=>rw[hs]at hj;cases hj
     |some l=>rw[hs]at hj;cases hj;rfl)
    rw[add_plain]at this
    simpa using this
   have hgz:g<wr.heap.size:=Bl hblk;have hjl:(Lib.join ((ss.map fun l=>(⟨l.toArray⟩:ByteArray)).map (·.data.toList)) (⟨#[32]⟩:ByteArray).data.toList)=AO ⟨op,d,s,t,u,a,k,q⟩:=by
    unfold AO;rw[hfin,List.map_map]
    congr 1
    conv=>rhs;rw[←List.map_id ss]
    rfl
   have hjn:=LI ⟨op,d,s,t,u,a,k,q⟩ hfit;have hll:(ss.map fun l=>(⟨l.toArray⟩:ByteArray)).length=ss.length:=List.length_map ..;have HJ:=Az (Tryz.strings_Join g 0 cap (ss.map fun l=>(⟨l.toArray⟩:ByteArray)) ⟨#[32]⟩ wr hcells hgz (by rw[hll];omega) (by rw[hll];exact hle) (by rw[hjl];omega));rw[hll,hjl]at HJ;clear hcells hblk hcs htk hjl hll hfin hl1 hkl hv hss;go_wp2_with fail
   refine HJ.out.mono ?_;rintro e w5 ⟨rfl,hb5⟩;go_wp2;go_ret2
   exact⟨rfl,hB.out.trans (hb5.mono (by have:=hB.out.size;omega))⟩
theorem K6(op d s t u a k q:Int)(w:World)(hr:Av ⟨op,d,s,t,u,a,k,q⟩ 1073741824=false)(hwk:0≤k∧k≤4294967295) :
  Calls Tryz.prog 151 #[.agg #[.int .i64 op,.int .i64 d,.int .i64 s,.int .i64 t,.int .i64 u,.int .i64 a,.int .u32 k,.int .i64 q]] w fun e w' =>
   e=.returned (.tuple #[.string ⟨#[]⟩,.int .i64 1])∧Below w.heap.size w w':=by
 have HR:=Az (FY ⟨op,d,s,t,u,a,k,q⟩ 1073741824 hwk);replace hr:=Az hr;go_enter Tryz.func151,Tryz.ntmps151;go_wp2_with fail
 refine(HR.out _).mono ?_;rintro e w1 ⟨rfl,hb1⟩;rw[hr.out];go_wp2;go_ret2
 exact⟨rfl,((Below.refl w.heap.size w).alloc (Nl _) _).trans (hb1.mono (by simp))⟩
theorem Eo(i:In)(hwk:i.wk)(w:World)(he:Env w) :
  Calls Tryz.prog 151 #[i.v] w fun e w'=>e=.returned (.tuple #[.string ⟨(CY i).1.toArray⟩,.int .i64 (CY i).2])∧Below w.heap.size w w':=by
 cases i with
 |mk op d s t u a k q =>
  unfold CY;cases hr:Av ⟨op,d,s,t,u,a,k,q⟩ 1073741824 with
  |true =>
   rw[if_pos rfl];exact K5 op d s t u a k q w he hr hwk
  |false =>
   rw[if_neg (by simp)];exact K6 op d s t u a k q w hr hwk
theorem KP(g o n:Nat)(hn:1≤n):∃ A':Option Addr,(∀ W:World,(Instr.slice 108 (.slice (some ⟨g,o,none⟩) n n) (some (.int .i64 1)) none none).run Tryz.prog W=.ok (.slice A' (n-1) (n-1)) W)∧(1<n→A'=some ⟨g,o+1,none⟩):=by
 refine⟨if n=1 then some ⟨g,o,none⟩ else some ⟨g,o+1,none⟩,fun W=>?_,fun h=>if_neg (by omega)⟩;obtain⟨i9,hi,hz0,hz1,hz2⟩:=info_parts E3;have hel:Tryz.prog.elem 108=9:=by simp[Program.elem,Tryz.underlying108]
 have hu:Tryz.prog.underlying 108=some (.slice (Tryz.prog.elem 108)):=by rw[hel];exact Tryz.underlying108
 rw[run_slice_l W 108 (some ⟨g,o,none⟩) n n hu .i64 1 (by omega) (by omega),hel];by_cases h1:n=1
 ·subst h1;simp[sizeOf,typeInfo,hi,hz1,sliced,Result.andThen]
 ·rw[if_neg h1];simp[sizeOf,typeInfo,hi,hz1,sliced,Result.andThen,h1,Addr.add]
theorem Kw(a b:ByteArray)(W:World):(Instr.field 198 (.agg #[.string a,.string b]) 1).run Tryz.prog W=.ok (.string b) W:=by kernel_rfl
theorem EY(s:List UInt8)(i:In)(rest:List (List UInt8)):Jf s (some (i,rest))=if rest≠[]∨(CY i).2≠0∨(CY i).1≠s then (In.zero,8) else (i,0):=rfl
theorem BZ.keep{w w':World}{v:Value}{ss:List (List UInt8)}(h:BZ w v ss)(hb:Below w.heap.size w w'):BZ w' v ss:=by
 rcases h with h |⟨g,o,hv,cs,hg,hc⟩
 ·exact .inl h
 ·exact .inr ⟨g,o,hv,cs,Bk hb hg,hc⟩
theorem BZ.set{w:World}{v:Value}{ss:List (List UInt8)}(h:BZ w v ss){p:Addr}{cs:Array Value}{t:TypeId}(hp:w.heap[p.block]?=some (.cells cs t (0,0)))(ht:t≠9)(u:Value):BZ (w.setCell p u) v ss:=by
 rcases h with h |⟨g,o,hv,ds,hg,hc⟩
 ·exact .inl h
 ·exact .inr ⟨g,o,hv,ds,Ba hg (Ij hg hp (fun e=>ht e.symm)) _,hc⟩
theorem BZ.cut{w:World}{g o:Nat}{s:List UInt8}{ss:List (List UInt8)}{cs:Array Value}(hg:w.heap[g]?=some (.cells cs 9 (0,0)))(hc:∀ j,j<(s::ss).length→cs[o+j]?=some (.string ⟨((s::ss).getD j []).toArray⟩))
  {A:Option Addr}(hA:1<ss.length+1→A=some ⟨g,o+1,none⟩):BZ w (.slice A ss.length ss.length) ss:=by
 cases ss with
 |nil=>exact .inl ⟨rfl,A,rfl⟩
 |cons s' ss =>
  refine .inr ⟨g,o+1,by rw[hA (by simp)],cs,hg,fun j hj=>?_⟩;have:=hc (j+1) (by simp at hj ⊢;omega);rw[show o+1+j=o+(j+1) by omega]
  simpa using this
theorem Gh(l:List UInt8)(w:World)(he:Env w)(hl:l.length≤100000) :
  Calls Tryz.prog 122 #[.string ⟨l.toArray⟩] w fun e w'=>e=.returned (.tuple #[(CJ l).1.v,.int .i64 (CJ l).2])∧Below w.heap.size w w':=by
 have he0:=he.below ((Below.refl w.heap.size w).alloc (Nl _) (.cells In.zero.cs 126));have hS:=Tryz.strings_Split_shaped ⟨l.toArray⟩ ⟨#[32]⟩ (w.alloc (.cells In.zero.cs 126)) he0.shaped (by simp[ByteArray.size];omega) (by simp[ByteArray.size]);rw[Lh,Li]at hS;have hsh:=Fz l;have hln:(Ay l).length≤l.length+1:=by rw[Cy];have:=List.count_le_length (a:=(32:UInt8)) (l:=l);omega
 have hP:CJ l=(match BO (AK (FJ ((Ay l).headD []))) {In.zero with op:=FJ ((Ay l).headD [])} ((Ay l).drop 1) with
  |none=>(In.zero,8)
  |some (i,rest)=>if rest≠[]∨(CY i).2≠0∨(CY i).1≠l then (In.zero,8) else (i,0)):=rfl
 cases hs:Ay l with
 |nil=>exact absurd hs (Dw l)
 |cons s0 rest =>
  rw[hs]at hS hsh hln hP;simp only[List.headD_cons,List.drop_succ_cons,List.drop_zero,List.length_cons]at hS hP hln;generalize CJ l=fin at hP ⊢;generalize hop:FJ s0=op at hP;replace hop:=Az hop;replace hP:=Az hP;replace hS:=Az hS;clear hs he0;obtain⟨A',hcut,hA'⟩:=KP (w.heap.size+1) 0 (rest.length+1) (by omega);replace hA':=Az hA';go_enter Tryz.func122,Tryz.ntmps122;go_wp2_with fail
  refine hS.out.mono ?_;rintro e w' ⟨rfl,rfl⟩;have hsz0:(w.alloc (.cells In.zero.cs 126)).heap.size=w.heap.size+1:=by simp
  generalize hcs:(List.map Value.string (List.map (fun x=>(⟨x.toArray⟩:ByteArray)) (s0::rest))).toArray=cs;have hgc:∀ j,j<(s0::rest).length→cs[0+j]?=some (.string ⟨((s0::rest).getD j []).toArray⟩):=fun j hj=>by
   rw[←hcs,Nat.zero_add,List.getElem?_toArray,List.getElem?_map,List.getElem?_map,List.getElem?_eq_getElem hj];simp[List.getD_eq_getElem?_getD,List.getElem?_eq_getElem hj]
  generalize hw1:((w.alloc (.cells In.zero.cs 126)).alloc (.cells cs 9))=w1;have hgb:w1.heap[w.heap.size+1]?=some (.cells cs 9 (0,0)):=by rw[←hw1];exact Cx _ _ _
  have hZ:w1.heap[w.heap.size]?=some (.cells In.zero.cs 126 (0,0)):=by rw[←hw1];exact As (Bv _ _) _
  have hB:Below w.heap.size w w1:=by rw[←hw1];exact((Below.refl w.heap.size w).alloc (Nl _) _).alloc (by simp) _
  have hz1:w1.heap.size=w.heap.size+1+1:=by rw[←hw1];simp
  clear hcs hw1;rw[hsz0];have c0:w1.cell? ⟨w.heap.size+1,0,none⟩=some (.string ⟨s0.toArray⟩):=(Bc hgb 0).trans (hgc 0 (by simp));have hz1':w.heap.size+1<w1.heap.size:=by omega
  replace hgc:=Az hgc;replace hgb:=Az hgb;replace hZ:=Az hZ;replace hz1:=Az hz1;clear hsz0;go_wp2_with fail
  refine(Jv s0 _).mono ?_;rintro e w2 ⟨rfl,hb2⟩;rw[hop.out];have hz2:=hb2.size;go_wp2_with fail
  refine(E8 _ _).mono ?_;rintro e w3 ⟨rfl,hb3⟩;have hz3:=hb3.size;simp at hz3;have hl5:=EU op;have kf:=Kw ⟨(Ag op).toArray⟩ ⟨(AK op).toArray⟩;have kb:=fun W=>E7 (P:=Tryz.prog) 9 142 5 Tryz.underlying9 Tryz.underlying142 Tryz.underlying5 ⟨(AK op).toArray⟩ W
  go_wp2_with fail
  generalize grownCap _ _ _ _=cap;have hBa:=Az ((hB.trans (hb2.mono (by omega))).alloc (by omega) (.cells (In.cs ⟨op,0,0,0,0,0,0,0⟩) 126));have hBb:=Az (DH (hBa.out.trans (hb3.mono (by simp;omega))) (by omega) 5 ⟨(AK op).toArray⟩);have hIa:=Az (Dv (Bk hb3 (Bv w2 (.cells (In.cs ⟨op,0,0,0,0,0,0,0⟩) 126))) 5 ⟨(AK op).toArray⟩);have hZa:=Az (Dv (Bk hb3 (As (Bk hb2 hZ.out) (.cells (In.cs ⟨op,0,0,0,0,0,0,0⟩) 126))) 5 ⟨(AK op).toArray⟩);have hga:=Az (Dv (Bk hb3 (As (Bk hb2 hgb.out) (.cells (In.cs ⟨op,0,0,0,0,0,0,0⟩) 126))) 5 ⟨(AK op).toArray⟩);have hBya:=Az (By.new w3 5 (AK op) w3.heap.size rfl (by omega));have hSa:=Az (BZ.cut hga.out hgc.out (fun h=>by have:=hA'.out h;simpa using this));have hsh':=Az (fun s h=>Nat.le_trans (hsh s (List.mem_cons_of_mem _ h)) hl:∀ s∈rest,s.length≤100000);have hgb3:w2.heap.size<w3.heap.size:=by omega
  have hP0:=Az (show Jf l (BO ((AK op).drop 0) ⟨op,0,0,0,0,0,0,0⟩ rest)=fin by rw[List.drop_zero,hP.out];rfl);clear hcut kb kf c0 hP hS;go_loopw [4,28] (fun v4 v28 wr=>∃ (kk:Nat) (i:In) (ls:List (List UInt8)),v28=.int .i64 kk∧kk≤(AK op).length∧i.wk∧(∀ s∈ls,s.length≤100000)∧ls.length≤100001∧Ai (BZ wr v4 ls) ∧
   Ai (wr.heap[w2.heap.size]?=some (.cells i.cs 126 (0,0)))∧Ai (wr.heap[w.heap.size]?=some (.cells In.zero.cs 126 (0,0)))∧Ai (By wr w3.heap.size 5 (AK op)) ∧
   Ai (Below w.heap.size w wr)∧Ai (Jf l (BO ((AK op).drop kk) i ls)=fin)∧Ai (w3.heap.size<wr.heap.size)) (fun _ v28 wr=>(AK op).length-(intOf v28).toNat)
  case atStart =>
   exact⟨0,⟨op,0,0,0,0,0,0,0⟩,rest,rfl,Nat.zero_le _,⟨by simp,by simp⟩,hsh'.out,by omega,hSa,hIa,hZa,hBya,hBb,hP0,⟨by rw[Lib.bytesWorld_size];omega⟩⟩
  case round =>
   clear hBa hBb hIa hZa hga hBya hSa hP0 hZ hgb hgc hA' hsh hsh';obtain⟨kk,i,ls,rfl,hkk,hwk,hsh,hln,hSl,hI,hZ,hBy,hB',hF,hsz⟩:=hrel;have hzr:=hB'.out.size;by_cases hlt:kk<(AK op).length
   ·have hby:=hBy.out.byte kk hlt;cases ls with
    |nil =>
     have hv:∃ A,u4=.slice A 0 0:=by
      rcases hSl.out with ⟨_,h⟩ |⟨g,o,h,_⟩
      ·exact h
      ·exact⟨_,h⟩
     obtain⟨A,rfl⟩:=hv;have hfin:(In.zero,(8:Int))=fin:=by rw[←hF.out,Jg _ _ _ hlt];rfl
     replace hfin:=Az hfin;have z0:w.heap.size<wr.heap.size:=Bl hZ.out;have zc0:wr.cell? ⟨w.heap.size,0,none⟩=some (.int .i64 0):=(Bc hZ.out 0).trans rfl;have zc1:wr.cell? ⟨w.heap.size,1,none⟩=some (.int .i64 0):=(Bc hZ.out 1).trans rfl;have zc2:wr.cell? ⟨w.heap.size,2,none⟩=some (.int .i64 0):=(Bc hZ.out 2).trans rfl;have zc3:wr.cell? ⟨w.heap.size,3,none⟩=some (.int .i64 0):=(Bc hZ.out 3).trans rfl;have zc4:wr.cell? ⟨w.heap.size,4,none⟩=some (.int .i64 0):=(Bc hZ.out 4).trans rfl;have zc5:wr.cell? ⟨w.heap.size,5,none⟩=some (.int .i64 0):=(Bc hZ.out 5).trans rfl;have zc6:wr.cell? ⟨w.heap.size,6,none⟩=some (.int .u32 0):=(Bc hZ.out 6).trans rfl;have zc7:wr.cell? ⟨w.heap.size,7,none⟩=some (.int .i64 0):=(Bc hZ.out 7).trans rfl;have zf0:=Bf hZ.out 0;have zf1:=Bf hZ.out 1;have zf2:=Bf hZ.out 2;have zf3:=Bf hZ.out 3;have zf4:=Bf hZ.out 4;have zf5:=Bf hZ.out 5;have zf6:=Bf hZ.out 6;have zf7:=Bf hZ.out 7;go_wp2;refine bodyPost_ret (Ah rfl _ _ w.heap.size 126 In.zero.cs (0,0) _ rfl (BF hZ.out (.int .i64 0) (.int .i64 0) (.int .i64 0) (.int .i64 0) (.int .i64 0) (.int .i64 0) (.int .u32 0) (.int .i64 0)) Tryz.underlying126 rfl (by kernel_rfl)) rfl ⟨?_,((((((((hB'.out).setCell (p:=⟨w.heap.size,0,none⟩) (Nl _) _).setCell (p:=⟨w.heap.size,1,none⟩) (Nl _) _).setCell (p:=⟨w.heap.size,2,none⟩) (Nl _) _).setCell (p:=⟨w.heap.size,3,none⟩) (Nl _) _).setCell (p:=⟨w.heap.size,4,none⟩) (Nl _) _).setCell (p:=⟨w.heap.size,5,none⟩) (Nl _) _).setCell (p:=⟨w.heap.size,6,none⟩) (Nl _) _).setCell (p:=⟨w.heap.size,7,none⟩) (Nl _) _⟩;rw[←hfin.out];rfl
    |cons wd ls =>
     obtain⟨g,o,rfl,cs',hg',hc'⟩:∃ g o,u4=.slice (some ⟨g,o,none⟩) (ls.length+1) (ls.length+1)∧∃ cs',wr.heap[g]?=some (.cells cs' 9 (0,0))∧∀ j,j<(wd::ls).length→cs'[o+j]?=some (.string ⟨((wd::ls).getD j []).toArray⟩):=by
      rcases hSl.out with ⟨h,_⟩ |h
      ·cases h
      ·exact h
     have cw:wr.cell? ⟨g,o,none⟩=some (.string ⟨wd.toArray⟩):=(Bc hg' o).trans (hc' 0 (by simp));generalize hs0':(((AK op).getD kk 0).toNat:Int)=sg at hby;have hat:=Az (Ki (AK op) kk i wd ls hlt sg hs0');clear hs0';have he':=he.below hB'.out;obtain⟨A2,hcut,hA2⟩:=KP g o (ls.length+1) (by omega);replace hA2:=Az hA2;replace hg':=Az hg';replace hc':=Az hc';have hwl:=hsh wd (List.mem_cons_self ..);cases hfo:Ap sg with
     |some j =>
      have hj:=E2 hfo;have hF':=Az (show Jf l (BO ((AK op).drop (kk+1)) (i.put (B7 wd) j) ls)=fin by rw[←hF.out,hat.out,hfo]);replace hfo:=Az hfo;go_wp2_with fail
      refine(AT wd _ (by omega) he').mono ?_;rintro e w4 ⟨rfl,hb4⟩;have hz4:=hb4.size;have hI4:=Az (Bk hb4 hI.out);have hZ4:=Az (Bk hb4 hZ.out);have hg4:=Az (Bk hb4 hg'.out);have hBy4:=Az (hBy.out.keep hb4);have hB4:=Az (hB'.out.trans (hb4.mono hzr));have cj:w4.cell? ⟨w2.heap.size,j,none⟩=some (.int .i64 (i.get j)):=(Bc hI4.out j).trans (i.c j hj.1 hj.2);have fj:=Bf hI4.out j;go_wp2_with fail
      refine(BC _ _ _ _ hfo.out).mono ?_;rintro e w' ⟨rfl,rfl⟩;go_wp2;go_roundw
      case rel =>
       exact⟨kk+1,i.put (B7 wd) j,ls,by go_num,by omega,In.Md hwk _ _,fun s h=>hsh s (List.mem_cons_of_mem _ h),by simp at hln ⊢;omega,⟨(BZ.cut hg4.out hc'.out hA2.out).set (p:=⟨w2.heap.size,j,none⟩) hI4.out (by decide) _⟩,⟨by have:=Bs hI4.out j (.int .i64 (B7 wd));rw[In.JY _ _ _ hj.1 hj.2]at this;exact this⟩,⟨Ba hZ4.out (by simp;omega) _⟩,⟨hBy4.out.set (by simp;omega) _⟩,⟨hB4.out.setCell (by simp;omega) _⟩,hF',⟨by have:=hsz.out;simp;omega⟩⟩
      case measure=>simp[intOf];omega
     |none =>
      replace hfo:=Az hfo;by_cases h80:sg=80
      ·subst h80;have hF':=Az (show Jf l (BO ((AK op).drop (kk+1)) {i with q:=B7 wd} ls)=fin by rw[←hF.out,hat.out];rfl);go_wp2_with fail
       refine(AT wd _ (by omega) he').mono ?_;rintro e w4 ⟨rfl,hb4⟩;have hz4:=hb4.size;have hI4:=Az (Bk hb4 hI.out);have hZ4:=Az (Bk hb4 hZ.out);have hg4:=Az (Bk hb4 hg'.out);have hBy4:=Az (hBy.out.keep hb4);have hB4:=Az (hB'.out.trans (hb4.mono hzr));have c7:w4.cell? ⟨w2.heap.size,7,none⟩=some (.int .i64 i.q):=(Bc hI4.out 7).trans rfl;have f7:=Bf hI4.out 7;go_wp2_with fail
       refine(AQ _ _ _ hfo.out).mono ?_;rintro e w' ⟨rfl,rfl⟩;go_wp2;go_roundw
       case rel =>
        exact⟨kk+1,{i with q:=B7 wd},ls,by go_num,by omega,hwk,fun s h=>hsh s (List.mem_cons_of_mem _ h),by simp at hln ⊢;omega,⟨(BZ.cut hg4.out hc'.out hA2.out).set (p:=⟨w2.heap.size,7,none⟩) hI4.out (by decide) _⟩,⟨Bs hI4.out 7 (.int .i64 (B7 wd))⟩,⟨Ba hZ4.out (by simp;omega) _⟩,⟨hBy4.out.set (by simp;omega) _⟩,⟨hB4.out.setCell (by simp;omega) _⟩,hF',⟨by have:=hsz.out;simp;omega⟩⟩
       case measure=>simp[intOf];omega
      ·by_cases h87:sg=87
       ·subst h87;obtain⟨nd,hnd⟩:=Lj i (wd::ls);have hF':=Az (show Jf l (BO ((AK op).drop (kk+1)) (AM i (wd::ls)).1 (AM i (wd::ls)).2)=fin by rw[←hF.out,hat.out];rfl);have hwk2:=Mj hwk (wd::ls);have hsh2:∀ s∈(AM i (wd::ls)).2,s.length≤100000:=fun s h=>by
         rw[hnd]at h;exact hsh s (List.mem_of_mem_drop h)
        have hln2:(AM i (wd::ls)).2.length≤100001:=by
         rw[hnd,List.length_drop];omega
        clear hnd;replace hsh2:=Az hsh2;go_wp2_with fail
        refine(AT wd _ (by omega) he').mono ?_;rintro e w4 ⟨rfl,hb4⟩;have hz4:=hb4.size;have hI4:=Az (Bk hb4 hI.out);have hZ4:=Az (Bk hb4 hZ.out);have hg4:=Az (Bk hb4 hg'.out);have hBy4:=Az (hBy.out.keep hb4);have hB4:=Az (hB'.out.trans (hb4.mono hzr));go_wp2_with fail
        refine(AQ _ _ _ hfo.out).mono ?_;rintro e w' ⟨rfl,rfl⟩;go_wp2_with fail
        refine(Kx w2.heap.size g o i (wd::ls) cs' w w4 he hB4.out (by omega) ?ne hI4.out (by simp) (fun s h=>Nat.le_trans (hsh s h) (by omega)) (by omega) hg4.out hc'.out).mono ?_;case ne=>exact Ij hI4.out hg4.out (by decide)
        rintro e w5 ⟨v,rfl,hsl,hI5,hgr5⟩;have hz5:=hgr5.size;generalize hwi:AM i (wd::ls)=wi at hF' hwk2 hsh2 hln2 hsl hI5;clear hwi;have hZ5:=Az (Bg hZ4.out hgr5 (by simp;omega));have hBy5:=Az (hBy4.out.grown hgr5 (by simp;omega));have hB5:=Az (hB4.out.grown hgr5 (by omega) (fun k hk=>by cases hk;omega));replace hsl:=Az hsl;replace hI5:=Az hI5;clear hgr5;go_wp2;go_roundw
        case rel=>exact⟨kk+1,wi.1,wi.2,by go_num,by omega,hwk2,hsh2.out,hln2,hsl,hI5,hZ5,hBy5,hB5,hF',⟨by have:=hsz.out;omega⟩⟩
        case measure=>simp[intOf];omega
       ·have g80:(sg==80)=false:=Bq h80;have g87:(sg==87)=false:=Bq h87;have hF':=Az (show Jf l (BO ((AK op).drop (kk+1)) {i with k:=B7 wd%4294967296} ls)=fin by rw[←hF.out,hat.out,hfo.out];dsimp only;rw[if_neg h80,if_neg h87]);have hwr:IntKind.u32.wrap (B7 wd)=B7 wd%4294967296:=IntKind.wrap_u32 _;go_wp2_with fail
        refine(AT wd _ (by omega) he').mono ?_;rintro e w4 ⟨rfl,hb4⟩;have hz4:=hb4.size;have hI4:=Az (Bk hb4 hI.out);have hZ4:=Az (Bk hb4 hZ.out);have hg4:=Az (Bk hb4 hg'.out);have hBy4:=Az (hBy.out.keep hb4);have hB4:=Az (hB'.out.trans (hb4.mono hzr));have c6:w4.cell? ⟨w2.heap.size,6,none⟩=some (.int .u32 i.k):=(Bc hI4.out 6).trans rfl;have f6:=Bf hI4.out 6;go_wp2_with fail
        refine(AQ _ _ _ hfo.out).mono ?_;rintro e w' ⟨rfl,rfl⟩;go_wp2;go_roundw
        case rel =>
         exact⟨kk+1,{i with k:=B7 wd%4294967296},ls,by go_num,by omega,⟨by simp only;omega,by simp only;omega⟩,fun s h=>hsh s (List.mem_cons_of_mem _ h),by simp at hln ⊢;omega,⟨(BZ.cut hg4.out hc'.out hA2.out).set (p:=⟨w2.heap.size,6,none⟩) hI4.out (by decide) _⟩,⟨Bs hI4.out 6 (.int .u32 (B7 wd%4294967296))⟩,⟨Ba hZ4.out (by simp;omega) _⟩,⟨hBy4.out.set (by simp;omega) _⟩,⟨hB4.out.setCell (by simp;omega) _⟩,hF',⟨by have:=hsz.out;simp;omega⟩⟩
        case measure=>simp[intOf];omega
   ·have hkl:kk=(AK op).length:=by omega
    have he':=he.below hB'.out;have hF0:Jf l (some (i,ls))=fin:=by rw[←hF.out,hkl,List.drop_length];rfl
    have hsl':∃ A,u4=.slice A ls.length ls.length:=by
     rcases hSl.out with ⟨h,A,hv⟩ |⟨g,o,hv,_⟩
     ·exact⟨A,by rw[hv,h];rfl⟩
     ·exact⟨_,hv⟩
    obtain⟨A,rfl⟩:=hsl';have ic0:wr.cell? ⟨w2.heap.size,0,none⟩=some (.int .i64 i.op):=(Bc hI.out 0).trans rfl;have ic1:wr.cell? ⟨w2.heap.size,1,none⟩=some (.int .i64 i.d):=(Bc hI.out 1).trans rfl;have ic2:wr.cell? ⟨w2.heap.size,2,none⟩=some (.int .i64 i.s):=(Bc hI.out 2).trans rfl;have ic3:wr.cell? ⟨w2.heap.size,3,none⟩=some (.int .i64 i.t):=(Bc hI.out 3).trans rfl;have ic4:wr.cell? ⟨w2.heap.size,4,none⟩=some (.int .i64 i.u):=(Bc hI.out 4).trans rfl;have ic5:wr.cell? ⟨w2.heap.size,5,none⟩=some (.int .i64 i.a):=(Bc hI.out 5).trans rfl;have ic6:wr.cell? ⟨w2.heap.size,6,none⟩=some (.int .u32 i.k):=(Bc hI.out 6).trans rfl;have ic7:wr.cell? ⟨w2.heap.size,7,none⟩=some (.int .i64 i.q):=(Bc hI.out 7).trans rfl;by_cases h1:ls=[]
    ·subst h1;by_cases h2:(CY i).2=0
     ·by_cases h3:(CY i).1=l
      ·have hfin:(i,(0:Int))=fin:=by
        rw[←hF0,EY,if_neg (by simp[h2,h3])]
       have h2b:((CY i).2 != 0)=false:=bne_eq_false_iff_eq.2 h2;have h3b:((CY i).1 != l)=false:=bne_eq_false_iff_eq.2 h3;replace hfin:=Az hfin;clear hF0 hkl;go_wp2_with fail
       refine(Eo i hwk _ he').mono ?_;rintro e w5 ⟨rfl,hb5⟩;have hz5:=hb5.size;have hI5:=Az (Bk hb5 hI.out);have hZ5:=Az (Bk hb5 hZ.out);have hB5:=Az (hB'.out.trans (hb5.mono hzr));have z0:w.heap.size<w5.heap.size:=Bl hZ5.out;have zc0:w5.cell? ⟨w.heap.size,0,none⟩=some (.int .i64 0):=(Bc hZ5.out 0).trans rfl;have zf0:=Bf hZ5.out 0;have zc1:w5.cell? ⟨w.heap.size,1,none⟩=some (.int .i64 0):=(Bc hZ5.out 1).trans rfl;have zf1:=Bf hZ5.out 1;have zc2:w5.cell? ⟨w.heap.size,2,none⟩=some (.int .i64 0):=(Bc hZ5.out 2).trans rfl;have zf2:=Bf hZ5.out 2;have zc3:w5.cell? ⟨w.heap.size,3,none⟩=some (.int .i64 0):=(Bc hZ5.out 3).trans rfl;have zf3:=Bf hZ5.out 3;have zc4:w5.cell? ⟨w.heap.size,4,none⟩=some (.int .i64 0):=(Bc hZ5.out 4).trans rfl;have zf4:=Bf hZ5.out 4;have zc5:w5.cell? ⟨w.heap.size,5,none⟩=some (.int .i64 0):=(Bc hZ5.out 5).trans rfl;have zf5:=Bf hZ5.out 5;have zc6:w5.cell? ⟨w.heap.size,6,none⟩=some (.int .u32 0):=(Bc hZ5.out 6).trans rfl;have zf6:=Bf hZ5.out 6;have zc7:w5.cell? ⟨w.heap.size,7,none⟩=some (.int .i64 0):=(Bc hZ5.out 7).trans rfl;have zf7:=Bf hZ5.out 7;have jc0:w5.cell? ⟨w2.heap.size,0,none⟩=some (.int .i64 i.op):=(Bc hI5.out 0).trans rfl;have jc1:w5.cell? ⟨w2.heap.size,1,none⟩=some (.int .i64 i.d):=(Bc hI5.out 1).trans rfl;have jc2:w5.cell? ⟨w2.heap.size,2,none⟩=some (.int .i64 i.s):=(Bc hI5.out 2).trans rfl;have jc3:w5.cell? ⟨w2.heap.size,3,none⟩=some (.int .i64 i.t):=(Bc hI5.out 3).trans rfl;have jc4:w5.cell? ⟨w2.heap.size,4,none⟩=some (.int .i64 i.u):=(Bc hI5.out 4).trans rfl;have jc5:w5.cell? ⟨w2.heap.size,5,none⟩=some (.int .i64 i.a):=(Bc hI5.out 5).trans rfl;have jc6:w5.cell? ⟨w2.heap.size,6,none⟩=some (.int .u32 i.k):=(Bc hI5.out 6).trans rfl;have jc7:w5.cell? ⟨w2.heap.size,7,none⟩=some (.int .i64 i.q):=(Bc hI5.out 7).trans rfl;go_wp2;refine bodyPost_ret (Ah rfl _ _ w.heap.size 126 i.cs (0,0) _ rfl (BF hZ5.out (.int .i64 i.op) (.int .i64 i.d) (.int .i64 i.s) (.int .i64 i.t) (.int .i64 i.u) (.int .i64 i.a) (.int .u32 i.k) (.int .i64 i.q)) Tryz.underlying126 rfl (by kernel_rfl)) rfl ⟨?_,((((((((hB5.out).setCell (p:=⟨w.heap.size,0,none⟩) (Nl _) _).setCell (p:=⟨w.heap.size,1,none⟩) (Nl _) _).setCell (p:=⟨w.heap.size,2,none⟩) (Nl _) _).setCell (p:=⟨w.heap.size,3,none⟩) (Nl _) _).setCell (p:=⟨w.heap.size,4,none⟩) (Nl _) _).setCell (p:=⟨w.heap.size,5,none⟩) (Nl _) _).setCell (p:=⟨w.heap.size,6,none⟩) (Nl _) _).setCell (p:=⟨w.heap.size,7,none⟩) (Nl _) _⟩;rw[←hfin.out];rfl
      ·have hfin:(In.zero,(8:Int))=fin:=by
        rw[←hF0,EY,if_pos (.inr (.inr h3))]
       have h2b:((CY i).2 != 0)=false:=bne_eq_false_iff_eq.2 h2;have h3b:((CY i).1==l)=false:=Bq h3;replace hfin:=Az hfin;clear hF0 hkl;go_wp2_with fail
       refine(Eo i hwk _ he').mono ?_;rintro e w5 ⟨rfl,hb5⟩;have hz5:=hb5.size;have hI5:=Az (Bk hb5 hI.out);have hZ5:=Az (Bk hb5 hZ.out);have hB5:=Az (hB'.out.trans (hb5.mono hzr));have z0:w.heap.size<w5.heap.size:=Bl hZ5.out;have zc0:w5.cell? ⟨w.heap.size,0,none⟩=some (.int .i64 0):=(Bc hZ5.out 0).trans rfl;have zf0:=Bf hZ5.out 0;have zc1:w5.cell? ⟨w.heap.size,1,none⟩=some (.int .i64 0):=(Bc hZ5.out 1).trans rfl;have zf1:=Bf hZ5.out 1;have zc2:w5.cell? ⟨w.heap.size,2,none⟩=some (.int .i64 0):=(Bc hZ5.out 2).trans rfl;have zf2:=Bf hZ5.out 2;have zc3:w5.cell? ⟨w.heap.size,3,none⟩=some (.int .i64 0):=(Bc hZ5.out 3).trans rfl;have zf3:=Bf hZ5.out 3;have zc4:w5.cell? ⟨w.heap.size,4,none⟩=some (.int .i64 0):=(Bc hZ5.out 4).trans rfl;have zf4:=Bf hZ5.out 4;have zc5:w5.cell? ⟨w.heap.size,5,none⟩=some (.int .i64 0):=(Bc hZ5.out 5).trans rfl;have zf5:=Bf hZ5.out 5;have zc6:w5.cell? ⟨w.heap.size,6,none⟩=some (.int .u32 0):=(Bc hZ5.out 6).trans rfl;have zf6:=Bf hZ5.out 6;have zc7:w5.cell? ⟨w.heap.size,7,none⟩=some (.int .i64 0):=(Bc hZ5.out 7).trans rfl;have zf7:=Bf hZ5.out 7;have jc0:w5.cell? ⟨w2.heap.size,0,none⟩=some (.int .i64 i.op):=(Bc hI5.out 0).trans rfl;have jc1:w5.cell? ⟨w2.heap.size,1,none⟩=some (.int .i64 i.d):=(Bc hI5.out 1).trans rfl;have jc2:w5.cell? ⟨w2.heap.size,2,none⟩=some (.int .i64 i.s):=(Bc hI5.out 2).trans rfl;have jc3:w5.cell? ⟨w2.heap.size,3,none⟩=some (.int .i64 i.t):=(Bc hI5.out 3).trans rfl;have jc4:w5.cell? ⟨w2.heap.size,4,none⟩=some (.int .i64 i.u):=(Bc hI5.out 4).trans rfl;have jc5:w5.cell? ⟨w2.heap.size,5,none⟩=some (.int .i64 i.a):=(Bc hI5.out 5).trans rfl;have jc6:w5.cell? ⟨w2.heap.size,6,none⟩=some (.int .u32 i.k):=(Bc hI5.out 6).trans rfl;have jc7:w5.cell? ⟨w2.heap.size,7,none⟩=some (.int .i64 i.q):=(Bc hI5.out 7).trans rfl;go_wp2;refine bodyPost_ret (Ah rfl _ _ w.heap.size 126 In.zero.cs (0,0) _ rfl (BF hZ5.out (.int .i64 0) (.int .i64 0) (.int .i64 0) (.int .i64 0) (.int .i64 0) (.int .i64 0) (.int .u32 0) (.int .i64 0)) Tryz.underlying126 rfl (by kernel_rfl)) rfl ⟨?_,((((((((hB5.out).setCell (p:=⟨w.heap.size,0,none⟩) (Nl _) _).setCell (p:=⟨w.heap.size,1,none⟩) (Nl _) _).setCell (p:=⟨w.heap.size,2,none⟩) (Nl _) _).setCell (p:=⟨w.heap.size,3,none⟩) (Nl _) _).setCell (p:=⟨w.heap.size,4,none⟩) (Nl _) _).setCell (p:=⟨w.heap.size,5,none⟩) (Nl _) _).setCell (p:=⟨w.heap.size,6,none⟩) (Nl _) _).setCell (p:=⟨w.heap.size,7,none⟩) (Nl _) _⟩;rw[←hfin.out];rfl
     ·have hfin:(In.zero,(8:Int))=fin:=by
       rw[←hF0,EY,if_pos (.inr (.inl h2))]
      have h2b:((CY i).2 != 0)=true:=bne_iff_ne.2 h2;replace hfin:=Az hfin;clear hF0 hkl;go_wp2_with fail
      refine(Eo i hwk _ he').mono ?_;rintro e w5 ⟨rfl,hb5⟩;have hz5:=hb5.size;have hI5:=Az (Bk hb5 hI.out);have hZ5:=Az (Bk hb5 hZ.out);have hB5:=Az (hB'.out.trans (hb5.mono hzr));have z0:w.heap.size<w5.heap.size:=Bl hZ5.out;have zc0:w5.cell? ⟨w.heap.size,0,none⟩=some (.int .i64 0):=(Bc hZ5.out 0).trans rfl;have zf0:=Bf hZ5.out 0;have zc1:w5.cell? ⟨w.heap.size,1,none⟩=some (.int .i64 0):=(Bc hZ5.out 1).trans rfl;have zf1:=Bf hZ5.out 1;have zc2:w5.cell? ⟨w.heap.size,2,none⟩=some (.int .i64 0):=(Bc hZ5.out 2).trans rfl;have zf2:=Bf hZ5.out 2;have zc3:w5.cell? ⟨w.heap.size,3,none⟩=some (.int .i64 0):=(Bc hZ5.out 3).trans rfl;have zf3:=Bf hZ5.out 3;have zc4:w5.cell? ⟨w.heap.size,4,none⟩=some (.int .i64 0):=(Bc hZ5.out 4).trans rfl;have zf4:=Bf hZ5.out 4;have zc5:w5.cell? ⟨w.heap.size,5,none⟩=some (.int .i64 0):=(Bc hZ5.out 5).trans rfl;have zf5:=Bf hZ5.out 5;have zc6:w5.cell? ⟨w.heap.size,6,none⟩=some (.int .u32 0):=(Bc hZ5.out 6).trans rfl;have zf6:=Bf hZ5.out 6;have zc7:w5.cell? ⟨w.heap.size,7,none⟩=some (.int .i64 0):=(Bc hZ5.out 7).trans rfl;have zf7:=Bf hZ5.out 7;have jc0:w5.cell? ⟨w2.heap.size,0,none⟩=some (.int .i64 i.op):=(Bc hI5.out 0).trans rfl;have jc1:w5.cell? ⟨w2.heap.size,1,none⟩=some (.int .i64 i.d):=(Bc hI5.out 1).trans rfl;have jc2:w5.cell? ⟨w2.heap.size,2,none⟩=some (.int .i64 i.s):=(Bc hI5.out 2).trans rfl;have jc3:w5.cell? ⟨w2.heap.size,3,none⟩=some (.int .i64 i.t):=(Bc hI5.out 3).trans rfl;have jc4:w5.cell? ⟨w2.heap.size,4,none⟩=some (.int .i64 i.u):=(Bc hI5.out 4).trans rfl;have jc5:w5.cell? ⟨w2.heap.size,5,none⟩=some (.int .i64 i.a):=(Bc hI5.out 5).trans rfl;have jc6:w5.cell? ⟨w2.heap.size,6,none⟩=some (.int .u32 i.k):=(Bc hI5.out 6).trans rfl;have jc7:w5.cell? ⟨w2.heap.size,7,none⟩=some (.int .i64 i.q):=(Bc hI5.out 7).trans rfl;go_wp2;refine bodyPost_ret (Ah rfl _ _ w.heap.size 126 In.zero.cs (0,0) _ rfl (BF hZ5.out (.int .i64 0) (.int .i64 0) (.int .i64 0) (.int .i64 0) (.int .i64 0) (.int .i64 0) (.int .u32 0) (.int .i64 0)) Tryz.underlying126 rfl (by kernel_rfl)) rfl ⟨?_,((((((((hB5.out).setCell (p:=⟨w.heap.size,0,none⟩) (Nl _) _).setCell (p:=⟨w.heap.size,1,none⟩) (Nl _) _).setCell (p:=⟨w.heap.size,2,none⟩) (Nl _) _).setCell (p:=⟨w.heap.size,3,none⟩) (Nl _) _).setCell (p:=⟨w.heap.size,4,none⟩) (Nl _) _).setCell (p:=⟨w.heap.size,5,none⟩) (Nl _) _).setCell (p:=⟨w.heap.size,6,none⟩) (Nl _) _).setCell (p:=⟨w.heap.size,7,none⟩) (Nl _) _⟩;rw[←hfin.out];rfl
    ·have hfin:(In.zero,(8:Int))=fin:=by
      rw[←hF0,EY,if_pos (.inl h1)]
     have hpos:0<ls.length:=List.length_pos_iff.2 h1;have hposi:(0:Int)<(ls.length:Int):=by omega
     replace hfin:=Az hfin;clear hF0 hkl;go_wp2_with fail
     refine(Eo i hwk _ he').mono ?_;rintro e w5 ⟨rfl,hb5⟩;have hz5:=hb5.size;have hI5:=Az (Bk hb5 hI.out);have hZ5:=Az (Bk hb5 hZ.out);have hB5:=Az (hB'.out.trans (hb5.mono hzr));have z0:w.heap.size<w5.heap.size:=Bl hZ5.out;have zc0:w5.cell? ⟨w.heap.size,0,none⟩=some (.int .i64 0):=(Bc hZ5.out 0).trans rfl;have zf0:=Bf hZ5.out 0;have zc1:w5.cell? ⟨w.heap.size,1,none⟩=some (.int .i64 0):=(Bc hZ5.out 1).trans rfl;have zf1:=Bf hZ5.out 1;have zc2:w5.cell? ⟨w.heap.size,2,none⟩=some (.int .i64 0):=(Bc hZ5.out 2).trans rfl;have zf2:=Bf hZ5.out 2;have zc3:w5.cell? ⟨w.heap.size,3,none⟩=some (.int .i64 0):=(Bc hZ5.out 3).trans rfl;have zf3:=Bf hZ5.out 3;have zc4:w5.cell? ⟨w.heap.size,4,none⟩=some (.int .i64 0):=(Bc hZ5.out 4).trans rfl;have zf4:=Bf hZ5.out 4;have zc5:w5.cell? ⟨w.heap.size,5,none⟩=some (.int .i64 0):=(Bc hZ5.out 5).trans rfl;have zf5:=Bf hZ5.out 5;have zc6:w5.cell? ⟨w.heap.size,6,none⟩=some (.int .u32 0):=(Bc hZ5.out 6).trans rfl;have zf6:=Bf hZ5.out 6;have zc7:w5.cell? ⟨w.heap.size,7,none⟩=some (.int .i64 0):=(Bc hZ5.out 7).trans rfl;have zf7:=Bf hZ5.out 7;have jc0:w5.cell? ⟨w2.heap.size,0,none⟩=some (.int .i64 i.op):=(Bc hI5.out 0).trans rfl;have jc1:w5.cell? ⟨w2.heap.size,1,none⟩=some (.int .i64 i.d):=(Bc hI5.out 1).trans rfl;have jc2:w5.cell? ⟨w2.heap.size,2,none⟩=some (.int .i64 i.s):=(Bc hI5.out 2).trans rfl;have jc3:w5.cell? ⟨w2.heap.size,3,none⟩=some (.int .i64 i.t):=(Bc hI5.out 3).trans rfl;have jc4:w5.cell? ⟨w2.heap.size,4,none⟩=some (.int .i64 i.u):=(Bc hI5.out 4).trans rfl;have jc5:w5.cell? ⟨w2.heap.size,5,none⟩=some (.int .i64 i.a):=(Bc hI5.out 5).trans rfl;have jc6:w5.cell? ⟨w2.heap.size,6,none⟩=some (.int .u32 i.k):=(Bc hI5.out 6).trans rfl;have jc7:w5.cell? ⟨w2.heap.size,7,none⟩=some (.int .i64 i.q):=(Bc hI5.out 7).trans rfl;go_wp2;refine bodyPost_ret (Ah rfl _ _ w.heap.size 126 In.zero.cs (0,0) _ rfl (BF hZ5.out (.int .i64 0) (.int .i64 0) (.int .i64 0) (.int .i64 0) (.int .i64 0) (.int .i64 0) (.int .u32 0) (.int .i64 0)) Tryz.underlying126 rfl (by kernel_rfl)) rfl ⟨?_,((((((((hB5.out).setCell (p:=⟨w.heap.size,0,none⟩) (Nl _) _).setCell (p:=⟨w.heap.size,1,none⟩) (Nl _) _).setCell (p:=⟨w.heap.size,2,none⟩) (Nl _) _).setCell (p:=⟨w.heap.size,3,none⟩) (Nl _) _).setCell (p:=⟨w.heap.size,4,none⟩) (Nl _) _).setCell (p:=⟨w.heap.size,5,none⟩) (Nl _) _).setCell (p:=⟨w.heap.size,6,none⟩) (Nl _) _).setCell (p:=⟨w.heap.size,7,none⟩) (Nl _) _⟩;rw[←hfin.out];rfl
end
end Go.Proofs.YtjjpiefgdggghaaGreatDoor

/- Parts: Words, Text. -/
import Derived.Test.YtjjpiefgdggghaaGreatDoorA03
import Derived.Test.YtjjpiefgdggghaaGreatDoorA07
import Derived.Test.YtjjpiefgdggghaaGreatDoorA10
import Derived.Deep.QuietTactic
import Derived.BigQuiet
import Derived.Deep.RegionHeld3
import Derived.Deep.DeepCutAuto
import Derived.Test.YtjjpiefgdggghaaGreatDoorA04
set_option linter.unusedVariables false
set_option linter.unusedSimpArgs false
set_option maxRecDepth 100000
set_option maxHeartbeats 40000000
namespace Go.Proofs.YtjjpiefgdggghaaGreatDoor
section
open Go.RowKit Go.Proofs.YtjjpiefgdggghaaGreatDoorW.PrintWords
def DI(w:World)(g c:Nat)(ss:List (List UInt8)):Prop :=
 ∃ cur:Array Value,w.heap[g]?=some (.cells cur 9 (0,0))∧ss.length≤c∧c≤maxLen∧cur.size=c∧cur.toList.take ss.length=ss.map fun l=>Value.string ⟨l.toArray⟩
theorem Ff(v:Int)(h:0≤v∧v≤7)(w:World) :
  Calls Tryz.prog 48 #[.int .i64 v] w fun e w'=>e=.returned (.string ⟨(dec v).toArray⟩)∧w'=w:=by
 obtain⟨n,rfl⟩:=Int.eq_ofNat_of_zero_le h.1;refine(Tryz.strconv_Itoa_small n (by omega) w).mono ?_;rintro e w' ⟨rfl,rfl⟩;exact⟨by simp[dec],rfl⟩
theorem row_one(w:World)(s:ByteArray)(l:List UInt8)(h:s=⟨l.toArray⟩):DI (w.alloc (.cells #[.string s] 9)) w.heap.size 1 [l] :=
 ⟨_,Bv _ _,Nl _,by simp[maxLen],rfl,by rw[h];rfl⟩
theorem Mf(w:World)(o:Obj)(s:ByteArray)(l:List UInt8)(h:s=⟨l.toArray⟩):DI ((w.alloc o).alloc (.cells #[.string s] 9)) (w.heap.size+1) 1 [l]:=by
 have:=row_one (w.alloc o) s l h
 simpa using this
theorem OW(op d s t u a k q sg:Int)(j:Nat)(v:Int)(w:World)(hfo:Ay sg=some j)(hj:j≠5)(hv:In.get ⟨op,d,s,t,u,a,k,q⟩ j=v)(hv7:0≤v∧v≤7) :
  Calls Tryz.prog 169 #[.agg #[.int .i64 op,.int .i64 d,.int .i64 s,.int .i64 t,.int .i64 u,.int .i64 a,.int .u32 k,.int .i64 q],.int .u8 sg] w fun e w' =>
   ∃ g c,e=.returned (.slice (some ⟨g,0,none⟩) 1 c)∧w.heap.size≤g∧DI w' g c [114::dec v]∧Below w.heap.size w w':=by
 have hbd:=FH hfo;have n65:(sg != 65)=true:=by
  rcases Cr hfo with ⟨rfl,_⟩ |⟨rfl,_⟩ |⟨rfl,_⟩ |⟨rfl,_⟩ |⟨rfl,rfl⟩
  all_goals first |rfl |omega
 have cj:∀ o,(w.alloc (.cells #[.int .i64 op,.int .i64 d,.int .i64 s,.int .i64 t,.int .i64 u,.int .i64 a,.int .u32 k,.int .i64 q] o)).cell? ⟨w.heap.size,j,none⟩=some (.int .i64 v):=fun o=>by
  rw[←hv];exact(Bc (Bv _ _) j).trans (In.c ⟨op,d,s,t,u,a,k,q⟩ j hbd.1 hbd.2)
 replace cj:=cj 126;have hdl:(dec v).length≤20:=De _ (by omega);replace hfo:=Az hfo;replace hv:=Az hv;go_enter Tryz.func169,Tryz.ntmps169;go_wp2_with fail
 refine(Cf _ _ _ _ hfo.out).mono ?_;rintro e w' ⟨rfl,rfl⟩;go_wp2_with fail
 refine(Ff v hv7 _).mono ?_;rintro e w' ⟨rfl,rfl⟩;go_wp2;go_ret;refine⟨w.heap.size+1,1,?_,by omega,?_,?_⟩
 ·rfl
 ·exact Mf _ _ _ _ (B9 [114] (dec v))
 ·exact((Below.refl w.heap.size w).alloc (Nl _) _).alloc (by simp) _
theorem Nz(op d s t u a k q:Int)(w:World)(hv7:0≤a∧a≤7) :
  Calls Tryz.prog 169 #[.agg #[.int .i64 op,.int .i64 d,.int .i64 s,.int .i64 t,.int .i64 u,.int .i64 a,.int .u32 k,.int .i64 q],.int .u8 65] w fun e w' =>
   ∃ g c,e=.returned (.slice (some ⟨g,0,none⟩) 1 c)∧w.heap.size≤g∧DI w' g c [dec a]∧Below w.heap.size w w':=by
 have hdl:(dec a).length≤20:=De _ (by omega);go_enter Tryz.func169,Tryz.ntmps169;go_wp2_with fail
 refine(Cf _ _ _ _ (show Ay 65=some 5 from rfl)).mono ?_;rintro e w' ⟨rfl,rfl⟩;go_wp2_with fail
 refine(Ff a hv7 _).mono ?_;rintro e w' ⟨rfl,rfl⟩;go_wp2;go_ret;refine⟨w.heap.size+1,1,?_,by omega,?_,?_⟩
 ·rfl
 ·exact Mf _ _ _ _ rfl
 ·exact((Below.refl w.heap.size w).alloc (Nl _) _).alloc (by simp) _
theorem Mg(op d s t u a k q:Int)(w:World)(he:Env w)(hq:0≤q∧q≤1073741824) :
  Calls Tryz.prog 169 #[.agg #[.int .i64 op,.int .i64 d,.int .i64 s,.int .i64 t,.int .i64 u,.int .i64 a,.int .u32 k,.int .i64 q],.int .u8 80] w fun e w' =>
   ∃ g c,e=.returned (.slice (some ⟨g,0,none⟩) 1 c)∧w.heap.size≤g∧DI w' g c [dec q]∧Below w.heap.size w w':=by
 have hdl:(dec q).length≤20:=De _ (by omega);replace he:=he.below ((Below.refl w.heap.size w).alloc (Nl _) (.cells (In.cs ⟨op,d,s,t,u,a,k,q⟩) 126));have h0:=Below.alloc (Below.refl w.heap.size w) (Nl _) (.cells (In.cs ⟨op,d,s,t,u,a,k,q⟩) 126);go_enter Tryz.func169,Tryz.ntmps169;go_wp2_with fail
 refine(Bj _ _ _ (show Ay 80=none from rfl)).mono ?_;rintro e w' ⟨rfl,rfl⟩;go_wp2_with fail
 refine(GN q hq.1 (by omega) _ he).mono ?_;rintro e w1 ⟨rfl,hb⟩;have hz:=hb.size;simp at hz;go_wp2;go_ret;have hb':=h0.trans (hb.mono (by simp));refine⟨w1.heap.size,1,?_,by omega,?_,?_⟩
 ·rfl
 ·exact row_one _ _ _ rfl
 ·exact hb'.alloc hb'.size _
theorem OX(op d s t u a k q sg:Int)(w:World)(he:Env w)(hk:0≤k∧k≤4294967295)(hfo:Ay sg=none)(h80:sg≠80)(h87:sg≠87)(h65:sg≠65) :
  Calls Tryz.prog 169 #[.agg #[.int .i64 op,.int .i64 d,.int .i64 s,.int .i64 t,.int .i64 u,.int .i64 a,.int .u32 k,.int .i64 q],.int .u8 sg] w fun e w' =>
   ∃ g c,e=.returned (.slice (some ⟨g,0,none⟩) 1 c)∧w.heap.size≤g∧DI w' g c [dec k]∧Below w.heap.size w w':=by
 obtain⟨k,rfl⟩:=Int.eq_ofNat_of_zero_le hk.1;have hdl:(Lib.decDigits k).length≤20:=De _ (by omega);have hd:dec (k:Int)=Lib.decDigits k:=by simp[dec]
 rw[hd];clear hd;have g80:(sg==80)=false:=Bq h80;have g87:(sg==87)=false:=Bq h87;have g65:(sg==65)=false:=Bq h65;replace hfo:=Az hfo;replace he:=he.below ((Below.refl w.heap.size w).alloc (Nl _) (.cells (In.cs ⟨op,d,s,t,u,a,k,q⟩) 126));have h0:=Below.alloc (Below.refl w.heap.size w) (Nl _) (.cells (In.cs ⟨op,d,s,t,u,a,k,q⟩) 126);go_enter Tryz.func169,Tryz.ntmps169;go_wp2_with fail
 refine(Bj _ _ _ hfo.out).mono ?_;rintro e w' ⟨rfl,rfl⟩;go_wp2_with fail
 refine(KY k (by omega) _ he).mono ?_;rintro e w1 ⟨rfl,hb⟩;have hz:=hb.size;simp at hz;go_wp2;go_ret;have hb':=h0.trans (hb.mono (by simp));refine⟨w1.heap.size,1,?_,by omega,?_,?_⟩
 ·rfl
 ·exact row_one _ _ _ rfl
 ·exact hb'.alloc hb'.size _
theorem FI:(Tryz.prog.info? 9).map (fun i=>(i.zero,i.size,i.bytes))=some (some (.string ⟨#[]⟩),1,16):=by kernel_rfl
theorem Km(op d s t u a k q:Int)(wd:List UInt8)(w:World)(he:Env w)(ht:0≤t∧t≤7)(hq:q = -1)
  (i0:∀ W,(Instr.index 234 (.agg #[.string ⟨#[101,113]⟩,.string ⟨#[110,101]⟩]) (.int .u32 (min k 1))).run Tryz.prog W=.ok (.string ⟨wd.toArray⟩) W) :
  Calls Tryz.prog 169 #[.agg #[.int .i64 op,.int .i64 d,.int .i64 s,.int .i64 t,.int .i64 u,.int .i64 a,.int .u32 k,.int .i64 q],.int .u8 87] w fun e w' =>
   ∃ g c,e=.returned (.slice (some ⟨g,0,none⟩) 2 c)∧w.heap.size≤g∧DI w' g c [wd,114::dec t]∧Below w.heap.size w w':=by
 have hqb:(q != -1)=false:=bne_eq_false_iff_eq.2 hq;clear hq;have hdl:(dec t).length≤20:=De _ (by omega);have hst:=Az (B9 [114] (dec t));obtain⟨i9,hi,hz0,hz1,hz2⟩:=info_parts FI;replace hi:=Az hi;replace hz0:=Az hz0;replace hz1:=Az hz1;replace hz2:=Az hz2;go_enter Tryz.func169,Tryz.ntmps169;go_wp2_with fail
 refine(Bj _ _ _ (show Ay 87=none from rfl)).mono ?_;rintro e w' ⟨rfl,rfl⟩;go_upto_region 10 with fail
 go_cut [7] (fun s7 wx=>s7=.slice (some ⟨w.heap.size+1,0,none⟩) 2 2∧Ag (wx.heap[w.heap.size]?=some (.cells (In.cs ⟨op,d,s,t,u,a,k,q⟩) 126 (0,0))) ∧
  Ag (wx.heap[w.heap.size+1]?=some (.cells #[.string ⟨wd.toArray⟩,.string ⟨(114::dec t).toArray⟩] 9 (0,0)))∧Ag (Below w.heap.size w wx)∧Ag (wx.heap.size=w.heap.size+2))
 case first =>
  have c6:(w.alloc (.cells #[.int .i64 op,.int .i64 d,.int .i64 s,.int .i64 t,.int .i64 u,.int .i64 a,.int .u32 k,.int .i64 q] 126)).cell? ⟨w.heap.size,6,none⟩=some (.int .u32 k):=(Bc (Bv _ _) 6).trans rfl;have c3:(w.alloc (.cells #[.int .i64 op,.int .i64 d,.int .i64 s,.int .i64 t,.int .i64 u,.int .i64 a,.int .u32 k,.int .i64 q] 126)).cell? ⟨w.heap.size,3,none⟩=some (.int .i64 t):=(Bc (Bv _ _) 3).trans rfl;have hsm:¬9223372036854775807<1+(dec t).length:=by omega
  go_region_held3 (fun W=>W.cell? ⟨w.heap.size,6,none⟩=some (.int .u32 k)∧W.cell? ⟨w.heap.size,3,none⟩=some (.int .i64 t)) (go_keep) ((go_at_call 48;refine(Ff t ht _).mono ?_;rintro e w' ⟨rfl,rfl⟩))
  all_goals
   go_wp2_with fail
   go_meet
   exact⟨rfl,⟨Be (AZ (Bv _ _) _)⟩,⟨Be ((Cv _ _ _).trans (by rw[show(⟨#[114]⟩:ByteArray)++⟨(dec t).toArray⟩=⟨(114::dec t).toArray⟩ from hst.out]))⟩,⟨Bd (((Below.refl w.heap.size w).alloc (Nl _) _).alloc (by simp) _)⟩,⟨by simp⟩⟩
 case rest =>
  obtain⟨rfl,hB0,hB1,hbl,hsz⟩:=hcut;have z2:w.heap.size+1<wc.heap.size:=by have:=hsz.out;omega
  have c7:wc.cell? ⟨w.heap.size,7,none⟩=some (.int .i64 q):=(Bc hB0.out 7).trans rfl;go_wp2;go_ret;exact⟨w.heap.size+1,2,rfl,by omega,⟨_,hB1.out,Nl _,by simp[maxLen],rfl,rfl⟩,hbl.out⟩
theorem Kn(op d s t u a k q:Int)(wd:List UInt8)(w:World)(he:Env w)(ht:0≤t∧t≤7)(hq:0≤q∧q≤1073741824)
  (i0:∀ W,(Instr.index 234 (.agg #[.string ⟨#[101,113]⟩,.string ⟨#[110,101]⟩]) (.int .u32 (min k 1))).run Tryz.prog W=.ok (.string ⟨wd.toArray⟩) W) :
  Calls Tryz.prog 169 #[.agg #[.int .i64 op,.int .i64 d,.int .i64 s,.int .i64 t,.int .i64 u,.int .i64 a,.int .u32 k,.int .i64 q],.int .u8 87] w fun e w' =>
   ∃ g c,e=.returned (.slice (some ⟨g,0,none⟩) 4 c)∧w.heap.size≤g∧DI w' g c [wd,114::dec t,[101,108,115,101],dec q]∧Below w.heap.size w w':=by
 have hqb:(q != -1)=true:=bne_iff_ne.2 (by omega);have hdl:(dec t).length≤20:=De _ (by omega);have hst:=Az (B9 [114] (dec t));obtain⟨i9,hi,hz0,hz1,hz2⟩:=info_parts FI;replace hi:=Az hi;replace hz0:=Az hz0;replace hz1:=Az hz1;replace hz2:=Az hz2;go_enter Tryz.func169,Tryz.ntmps169;go_wp2_with fail
 refine(Bj _ _ _ (show Ay 87=none from rfl)).mono ?_;rintro e w' ⟨rfl,rfl⟩;go_upto_region 10 with fail
 go_cut [7] (fun s7 wx=>s7=.slice (some ⟨w.heap.size+1,0,none⟩) 2 2∧Ag (wx.heap[w.heap.size]?=some (.cells (In.cs ⟨op,d,s,t,u,a,k,q⟩) 126 (0,0))) ∧
  Ag (wx.heap[w.heap.size+1]?=some (.cells #[.string ⟨wd.toArray⟩,.string ⟨(114::dec t).toArray⟩] 9 (0,0)))∧Ag (Below w.heap.size w wx)∧Ag (wx.heap.size=w.heap.size+2))
 case first =>
  have c6:(w.alloc (.cells #[.int .i64 op,.int .i64 d,.int .i64 s,.int .i64 t,.int .i64 u,.int .i64 a,.int .u32 k,.int .i64 q] 126)).cell? ⟨w.heap.size,6,none⟩=some (.int .u32 k):=(Bc (Bv _ _) 6).trans rfl;have c3:(w.alloc (.cells #[.int .i64 op,.int .i64 d,.int .i64 s,.int .i64 t,.int .i64 u,.int .i64 a,.int .u32 k,.int .i64 q] 126)).cell? ⟨w.heap.size,3,none⟩=some (.int .i64 t):=(Bc (Bv _ _) 3).trans rfl;have hsm:¬9223372036854775807<1+(dec t).length:=by omega
  go_region_held3 (fun W=>W.cell? ⟨w.heap.size,6,none⟩=some (.int .u32 k)∧W.cell? ⟨w.heap.size,3,none⟩=some (.int .i64 t)) (go_keep) ((go_at_call 48;refine(Ff t ht _).mono ?_;rintro e w' ⟨rfl,rfl⟩))
  all_goals
   go_wp2_with fail
   go_meet
   exact⟨rfl,⟨Be (AZ (Bv _ _) _)⟩,⟨Be ((Cv _ _ _).trans (by rw[show(⟨#[114]⟩:ByteArray)++⟨(dec t).toArray⟩=⟨(114::dec t).toArray⟩ from hst.out]))⟩,⟨Bd (((Below.refl w.heap.size w).alloc (Nl _) _).alloc (by simp) _)⟩,⟨by simp⟩⟩
 case rest =>
  obtain⟨rfl,hB0,hB1,hbl,hsz⟩:=hcut;have z2:w.heap.size+1<wc.heap.size:=by have:=hsz.out;omega
  have c7:wc.cell? ⟨w.heap.size,7,none⟩=some (.int .i64 q):=(Bc hB0.out 7).trans rfl;have hwe:=he.below hbl.out;have hdq:(dec q).length≤20:=De _ (by omega);go_wp2_with fail
  refine(GN q (by omega) (by omega) _ hwe).mono ?_;rintro e w1 ⟨rfl,hb⟩;have hz1':=hb.size;have hR:w1.ownsRow w.heap.size 9 1 (.slice (some ⟨w.heap.size+1,0,none⟩) 2 2) 2 [.string ⟨wd.toArray⟩,.string ⟨(114::dec t).toArray⟩] :=
   ⟨rfl,.inr ⟨w.heap.size+1,2,_,rfl,by omega,Bk hb hB1.out,Nl _,by simp[maxLen],rfl,rfl⟩⟩
  replace hR:=Az hR;have hN:=Az (Bv w1 (.cells #[.string ⟨#[101,108,115,101]⟩,.string ⟨(dec q).toArray⟩] 9));have z1:w.heap.size+1<w1.heap.size:=by omega
  have ca:∀ j u,[Value.string ⟨#[101,108,115,101]⟩,Value.string ⟨(dec q).toArray⟩][j]?=some u→(w1.alloc (.cells #[.string ⟨#[101,108,115,101]⟩,.string ⟨(dec q).toArray⟩] 9)).cell? ((⟨w1.heap.size,0,none⟩:Addr).add j)=some u:=fun j u hj=>by
   rw[add_plain];exact(Bc hN.out j).trans (by simpa using hj)
  replace ca:=Az ca;go_wp2_with ((at_builtin;refine wpList_append_own _ rfl (.tmp 53) (.tmp 57) 108 rfl w.heap.size 9 i9 (.string ⟨#[]⟩) 1 16 Tryz.underlying108 hi.out hz0.out hz1.out hz2.out rfl (by decide) _ _ _ rfl (hR.out.alloc _) ⟨w1.heap.size,0,none⟩ 2 2 [.string ⟨#[101,108,115,101]⟩,.string ⟨(dec q).toArray⟩] rfl rfl ca.out ?c2 ?c3 ?c4 ?c5 ?_))
  case c2=>simp[Value.oneCell']
  case c3=>simp[maxLen]
  case c4=>omega
  case c5=>simp;omega
  intro v' w2 hown hgr hnil;have hbz:=hgr.size;simp at hbz;obtain⟨hlen,hcase⟩:=hown;have hcase':∃ g cap cur,v'=.slice (some ⟨g,0,none⟩) 4 cap∧w.heap.size≤g∧w2.heap[g]?=some (.cells cur 9 (0,0))∧4≤cap∧cap≤maxLen∧cur.size=cap*1∧cur.toList.take (4*1)=[.string ⟨wd.toArray⟩,.string ⟨(114::dec t).toArray⟩,.string ⟨#[101,108,115,101]⟩,.string ⟨(dec q).toArray⟩]:=by
   rcases hcase with ⟨_,h⟩ |h
   ·omega
   ·exact h
  clear hcase hlen;obtain⟨g,cap,cur,hv,hg,hblk,h4,hml,hcs,htk⟩:=hcase';clear hnil;rw[hv];have hfin:DI w2 g cap [wd,114::dec t,[101,108,115,101],dec q]:=⟨cur,hblk,h4,hml,by omega,by simpa using htk⟩
  have hbe:Below w.heap.size w w2:=((hbl.out.trans (hb.mono (by omega))).alloc (by omega) _).grown hgr (by simp;omega) (fun k hk=>by simp[Value.ownBlock]at hk;omega);replace hfin:=Az hfin;clear hblk htk hv hcs;go_wp2;go_ret;exact⟨g,cap,rfl,hg,hfin.out,hbe⟩
end
section
open Go
theorem HG(v:Int)(h:v≤9223372036854775807):(dec v).length≤20:=De _ (by omega)
theorem Lz(i:In)(hf:i.fits)(s:Int):∀ w∈BF i s,w.length≤21:=by
 have h1:=HG i.a (by have:=hf.a;omega);have h2:=HG i.q (by have:=hf.q;omega);have h3:=HG i.t (by have:=hf.t;omega);have h4:=HG i.k (by have:=hf.k;omega);have h5:∀ j,(dec (i.get j)).length≤20:=fun j=>HG _ (by have:=hf.get j;omega)
 unfold BF;cases Ay s with
 |some j =>
  dsimp only;intro w hw;have:=h5 j;by_cases h:j=5
  ·rw[if_pos h]at hw;simp at hw;subst hw;omega
  ·rw[if_neg h]at hw;simp at hw;subst hw;simp;omega
 |none =>
  dsimp only;intro w hw;by_cases h:s=80
  ·rw[if_pos h]at hw;simp at hw;subst hw;omega
  by_cases h':s=87
  ·rw[if_neg h,if_pos h']at hw;by_cases hq:i.q = -1
   ·rw[if_pos hq]at hw;simp at hw;rcases hw with rfl |rfl
    ·split<;>simp
    ·simp;omega
   ·rw[if_neg hq]at hw;simp at hw;rcases hw with rfl |rfl |rfl |rfl
    ·split<;>simp
    ·simp;omega
    ·simp
    ·omega
  rw[if_neg h,if_neg h']at hw;simp at hw;subst hw;omega
theorem ML(sep:List UInt8)(n:Nat):∀ (l:List (List UInt8)),(∀ w∈l,w.length≤n)→(Lib.joinTail sep l).length≤l.length*(n+sep.length)
 |[],_=>by simp[Lib.joinTail]
 |x::l,h=>by
  have h1:=h x (List.mem_cons_self ..);have h2:=ML sep n l (fun w hw=>h w (List.mem_cons_of_mem _ hw));simp only[Lib.joinTail,List.map_cons,List.flatten_cons,List.length_append,List.length_cons]at h2 ⊢;rw[Nat.add_mul];omega
theorem MM(f:UInt8→List (List UInt8))(n:Nat)(h:∀ c,(f c).length≤n):∀ l:List UInt8,(l.map f).flatten.length≤l.length*n
 |[]=>by simp
 |c::l=>by
  have:=MM f n h l;have:=h c;simp only[List.map_cons,List.flatten_cons,List.length_append,List.length_cons];rw[Nat.add_mul];omega
theorem NW(op:Int):(Aj op).length≤5:=by
 unfold Aj;repeat (refine O4 (by decide) ?_)
 decide
theorem PQ(i:In)(hf:i.fits):(Bh i).length≤600:=by
 unfold Bh Jr;rw[Lib.join_cons,List.length_append];have h1:=NW i.op;have h2:=MM (fun c=>BF i (c.toNat:Int)) 4 (fun c=>Js i _) (AU i.op);have h3:=Gu i.op;have h4:=ML [32] 21 ((AU i.op).map fun c=>BF i (c.toNat:Int)).flatten (fun w hw=>by
  rw[List.mem_flatten]at hw;obtain⟨l,hl,hw⟩:=hw;rw[List.mem_map]at hl;obtain⟨c,_,rfl⟩:=hl;exact Lz i hf _ w hw)
 simp only[List.length_cons,List.length_nil]at h4;have h5:((AU i.op).map fun c=>BF i (c.toNat:Int)).flatten.length≤20:=by omega
 have h6:=Nat.mul_le_mul_right (21+(0+1)) h5;omega
end
section
open Go.RowKit Go.Proofs.YtjjpiefgdggghaaGreatDoorW.PrintWords
theorem L0{i:In}{sg:Int}{j:Nat}(h:Ay sg=some j):BF i sg=if j=5 then [dec i.a] else [114::dec (i.get j)]:=by
 unfold BF;rw[h]
theorem NX{i:In}{sg:Int}(h:Ay sg=none)(h80:sg≠80)(h87:sg≠87):BF i sg=[dec i.k]:=by
 unfold BF;rw[h];dsimp only;rw[if_neg h80,if_neg h87]
theorem WI(W:World):(Instr.index 234 (.agg #[.string ⟨#[101,113]⟩,.string ⟨#[110,101]⟩]) (.int .u32 0)).run Tryz.prog W=.ok (.string ⟨#[101,113]⟩) W:=by kernel_rfl
theorem WJ(W:World):(Instr.index 234 (.agg #[.string ⟨#[101,113]⟩,.string ⟨#[110,101]⟩]) (.int .u32 1)).run Tryz.prog W=.ok (.string ⟨#[110,101]⟩) W:=by kernel_rfl
theorem MN(i:In)(hf:i.fits)(sg:Int)(hq80:sg=80→0≤i.q)(w:World)(he:Env w) :
  Calls Tryz.prog 169 #[i.v,.int .u8 sg] w fun e w' =>
   ∃ g c,e=.returned (.slice (some ⟨g,0,none⟩) (BF i sg).length c)∧w.heap.size≤g∧DI w' g c (BF i sg)∧Below w.heap.size w w':=by
 cases i with
 |mk op d s t u a k q =>
  cases hfo:Ay sg with
  |some j =>
   by_cases h5:j=5
   ·have h65:sg=65:=by
     rcases Cr hfo with ⟨rfl,h⟩ |⟨rfl,h⟩ |⟨rfl,h⟩ |⟨rfl,h⟩ |⟨rfl,h⟩<;>omega
    subst h65;exact Nz op d s t u a k q w hf.a
   ·rw[L0 hfo,if_neg h5];exact OW op d s t u a k q sg j _ w hfo h5 rfl (hf.get j)
  |none =>
   by_cases h80:sg=80
   ·subst h80;have hq:=hf.q;exact Mg op d s t u a k q w he ⟨hq80 rfl,hq.2⟩
   ·by_cases h87:sg=87
    ·subst h87;have hq:=hf.q;have hk:=hf.k;simp only at hq hk;have hi:∃ wd:List UInt8,(if k=0 then [101,113] else [110,101])=wd∧∀ W,(Instr.index 234 (.agg #[.string ⟨#[101,113]⟩,.string ⟨#[110,101]⟩]) (.int .u32 (min k 1))).run Tryz.prog W=.ok (.string ⟨wd.toArray⟩) W:=by
      by_cases h0:k=0
      ·refine⟨_,rfl,?_⟩;rw[if_pos h0,h0,show min (0:Int) 1=0 from rfl];exact WI
      ·refine⟨_,rfl,?_⟩;rw[if_neg h0,show min k 1=1 by omega];exact WJ
     obtain⟨wd,hwd,hi⟩:=hi;by_cases h1:q = -1
     ·have e:BF ⟨op,d,s,t,u,a,k,q⟩ 87=[wd,114::dec t]:=by
       show(if k=0 then [101,113] else [110,101])::(114::dec t)::(if q = -1 then [] else [[101,108,115,101],dec q])=_
       rw[if_pos h1,hwd]
      rw[e];exact Km op d s t u a k q wd w he hf.t h1 hi
     ·have e:BF ⟨op,d,s,t,u,a,k,q⟩ 87=[wd,114::dec t,[101,108,115,101],dec q]:=by
       show(if k=0 then [101,113] else [110,101])::(114::dec t)::(if q = -1 then [] else [[101,108,115,101],dec q])=_
       rw[if_neg h1,hwd]
      rw[e];exact Kn op d s t u a k q wd w he hf.t (by omega) hi
    ·rw[NX hfo h80 h87];exact OX op d s t u a k q sg w he hf.k hfo h80 h87 (fun e=>by rw[e]at hfo;cases hfo)
theorem PR(f:UInt8→List (List UInt8))(l:List UInt8)(k:Nat)(h:k<l.length) :
  ((l.take (k+1)).map f).flatten=((l.take k).map f).flatten++f (l.getD k 0):=by
 rw[List.take_succ_eq_append_getElem h,List.map_append,List.flatten_append];simp[List.getD_eq_getElem?_getD,List.getElem?_eq_getElem h]
theorem BJ.byte{w:World}{g:Nat}{e:TypeId}{l:List UInt8}(h:BJ w g e l)(k:Nat)(hk:k<l.length):w.cell? ⟨g,k,none⟩=some (.int .u8 ((l.getD k 0).toNat:Int)):=by
 obtain⟨_,_,_,h2⟩:=h;exact h2 k hk
theorem R5{l:List UInt8}{k:Nat}(h:k<l.length):l.getD k 0∈l:=by
 simp[List.getD_eq_getElem?_getD,List.getElem?_eq_getElem h]
theorem DI.cells{w:World}{g c:Nat}{ss:List (List UInt8)}(h:DI w g c ss):∀ j u,(ss.map fun l=>Value.string ⟨l.toArray⟩)[j]?=some u→w.cell? ((⟨g,0,none⟩:Addr).add j)=some u:=fun j u hj=>by
 obtain⟨cur,hb,hl,hm,hs,ht⟩:=h;rw[add_plain];refine(Bc hb j).trans ?_;rw[←ht]at hj;rw[List.getElem?_take]at hj;split at hj
 ·rw[←Array.getElem?_toList];exact hj
 ·cases hj
def EK(ss:List (List UInt8)):List Value:=ss.map fun l=>Value.string ⟨l.toArray⟩
theorem NY(op d s t u a k q:Int)(w:World)(he:Env w)(hr:AD ⟨op,d,s,t,u,a,k,q⟩ 1073741824=true)(hwk:0≤k∧k≤4294967295) :
  Calls Tryz.prog 151 #[.agg #[.int .i64 op,.int .i64 d,.int .i64 s,.int .i64 t,.int .i64 u,.int .i64 a,.int .u32 k,.int .i64 q]] w fun e w' =>
   e=.returned (.tuple #[.string ⟨(Bh ⟨op,d,s,t,u,a,k,q⟩).toArray⟩,.int .i64 0])∧Below w.heap.size w w':=by
 have hfit:=I7 hr hwk;have hq80:=Mv hr;have HR:=Az (I5 ⟨op,d,s,t,u,a,k,q⟩ 1073741824 hwk);have hl5:=Gu op;have HT:=Az (Eq.refl (Bh ⟨op,d,s,t,u,a,k,q⟩));replace hr:=Az hr;replace hq80:=Az hq80;have kb:=fun W=>FQ (P:=Tryz.prog) 9 142 5 Tryz.underlying9 Tryz.underlying142 Tryz.underlying5 ⟨(AU op).toArray⟩ W
 go_enter Tryz.func151,Tryz.ntmps151;go_wp2_with fail
 refine(HR.out _).mono ?_;rintro e w1 ⟨rfl,hb1⟩;rw[hr.out];have BK:=Az (Bk hb1 (Bv w _));have z1:w.heap.size<w1.heap.size:=Bl BK.out;have c0:w1.cell? ⟨w.heap.size,0,none⟩=some (.int .i64 op):=(Bc BK.out 0).trans rfl;go_wp2_with fail
 refine(FR _ _).mono ?_;rintro e w2 ⟨rfl,hb2⟩;have TS:=hb2.size;replace BK:=Az (Bk hb2 BK.out);go_wp2_with fail
 clear c0 kb;generalize grownCap _ _ _ _=cap;obtain⟨i9,hi,hz0,hz1,hz2⟩:=info_parts FI;replace hi:=Az hi;replace hz0:=Az hz0;replace hz1:=Az hz1;replace hz2:=Az hz2;have hB2:=Az ((((Below.refl w.heap.size w).alloc (Nl _) (.cells (In.cs ⟨op,d,s,t,u,a,k,q⟩) 126)).trans (hb1.mono (by simp))).trans (hb2.mono (by omega)));have hB3:=Az (EB ((hB2.out.alloc (by omega) (.cells #[.string ⟨(Aj op).toArray⟩,.string ⟨(AU op).toArray⟩] 198)).alloc (by simp;omega) (.cells #[.string ⟨(Aj op).toArray⟩] 9)) (by simp;omega) 5 ⟨(AU op).toArray⟩);have hBy:=Az (BJ.new ((w2.alloc (.cells #[.string ⟨(Aj op).toArray⟩,.string ⟨(AU op).toArray⟩] 198)).alloc (.cells #[.string ⟨(Aj op).toArray⟩] 9)) 5 (AU op) (w2.heap.size+1+1) (by simp) (by omega));have hBK:=Az (Ei (AZ (AZ BK.out (.cells #[.string ⟨(Aj op).toArray⟩,.string ⟨(AU op).toArray⟩] 198)) (.cells #[.string ⟨(Aj op).toArray⟩] 9)) 5 ⟨(AU op).toArray⟩);have hRw:=Az (Ei (Cv w2 (.cells #[.string ⟨(Aj op).toArray⟩,.string ⟨(AU op).toArray⟩] 198) (.cells #[.string ⟨(Aj op).toArray⟩] 9)) 5 ⟨(AU op).toArray⟩);go_loopw [5,21] (fun v5 v21 wr=>∃ (kk:Nat) (ss:List (List UInt8)),v21=.int .i64 kk∧kk≤(AU op).length∧Ag (ss=Aj op::(((AU op).take kk).map fun c=>BF ⟨op,d,s,t,u,a,k,q⟩ (c.toNat:Int)).flatten) ∧
  Ag (wr.ownsRow w.heap.size 9 1 v5 ss.length (EK ss))∧Ag (wr.heap[w.heap.size]?=some (.cells (In.cs ⟨op,d,s,t,u,a,k,q⟩) 126 (0,0)))∧Ag (BJ wr (w2.heap.size+1+1) 5 (AU op)) ∧
  Ag (Below w.heap.size w wr)∧ss.length≤1+4*kk∧1≤ss.length) (fun _ v21 wr=>(AU op).length-(intOf v21).toNat)
 case atStart =>
  exact⟨0,[Aj op],rfl,Nat.zero_le _,⟨by simp⟩,⟨rfl,.inr ⟨w2.heap.size+1,1,_,rfl,by omega,hRw.out,Nl _,by simp[maxLen],rfl,rfl⟩⟩,hBK,hBy,hB3,by simp,by simp⟩
 case round =>
  clear hBK hBy hB3 hRw hB2 BK;obtain⟨kk,ss,rfl,hkk,hss,hown,hBK,hBy,hB,hlen,hpos⟩:=hrel;by_cases hlt:kk<(AU op).length
  ·have hby:=hBy.out.byte kk hlt;have hz:=hB.out.size;have he':=he.below hB.out;have c0:wr.cell? ⟨w.heap.size,0,none⟩=some (.int .i64 op):=(Bc hBK.out 0).trans rfl;have c1:wr.cell? ⟨w.heap.size,1,none⟩=some (.int .i64 d):=(Bc hBK.out 1).trans rfl;have c2:wr.cell? ⟨w.heap.size,2,none⟩=some (.int .i64 s):=(Bc hBK.out 2).trans rfl;have c3:wr.cell? ⟨w.heap.size,3,none⟩=some (.int .i64 t):=(Bc hBK.out 3).trans rfl;have c4:wr.cell? ⟨w.heap.size,4,none⟩=some (.int .i64 u):=(Bc hBK.out 4).trans rfl;have c5:wr.cell? ⟨w.heap.size,5,none⟩=some (.int .i64 a):=(Bc hBK.out 5).trans rfl;have c6:wr.cell? ⟨w.heap.size,6,none⟩=some (.int .u32 k):=(Bc hBK.out 6).trans rfl;have c7:wr.cell? ⟨w.heap.size,7,none⟩=some (.int .i64 q):=(Bc hBK.out 7).trans rfl;have hm80:(((AU op).getD kk 0).toNat:Int)=80→0≤q:=fun e=>hq80.out (by
    have e':(AU op).getD kk 0=80:=UInt8.toNat_inj.1 (Int.ofNat_inj.1 e);rw[←e'];exact R5 hlt)
   have htf:=Az (PR (fun c=>BF ⟨op,d,s,t,u,a,k,q⟩ (c.toNat:Int)) (AU op) kk hlt);have hw4:=Js ⟨op,d,s,t,u,a,k,q⟩ (((AU op).getD kk 0).toNat:Int);generalize hs0:(((AU op).getD kk 0).toNat:Int)=sg at hby hm80 htf hw4;clear hs0;replace hm80:=Az hm80;go_wp2_with fail
   refine(MN ⟨op,d,s,t,u,a,k,q⟩ hfit sg hm80.out _ he').mono ?_;rintro e w3 ⟨g,c,rfl,hg,hrow,hb3⟩;have hown3:=Az (Hw hown.out hb3);have hbs3:=hb3.size;have hca:=Az hrow.cells;clear hrow;generalize hwd:BF ⟨op,d,s,t,u,a,k,q⟩ sg=wd at htf hw4 hca;replace hwd:=Az hwd;go_wp2_with ((at_builtin;refine wpList_append_own _ rfl (.tmp 25) (.tmp 28) 108 rfl w.heap.size 9 i9 (.string ⟨#[]⟩) 1 16 Tryz.underlying108 hi.out hz0.out hz1.out hz2.out rfl (by decide) u5 ss.length (EK ss) rfl hown3.out ⟨g,0,none⟩ wd.length c (EK wd) rfl ?c1 hca.out ?c2 ?c3 ?c4 ?c5 ?_))
   case c1=>simp[EK]
   case c2=>simp[EK,Value.oneCell']
   case c3=>simp only[maxLen];omega
   case c4=>omega
   case c5=>omega
   intro v' w4 hown' hgr hnil;have hbs4:=hgr.size;have hne1:=Az (Oa hown3.out (Bk hb3 hBK.out) (show 9≠126 by decide));have hne2:=Az ((hBy.out.keep hb3).own hown3.out (show 9≠5 by decide));have hbe:=Az ((hB.out.trans (hb3.mono (by omega))).grown hgr (by omega) (fun k hk=>Ob hown3.out k hk));have hBK':=Az (Bg (Bk hb3 hBK.out) hgr hne1.out);have hBy':=Az ((hBy.out.keep hb3).grown hgr hne2.out);replace hown':=Az hown';clear hgr hnil hown hown3 hBK hBy hca hb3 hB c0 c1 c2 c3 c4 c5 c6 c7 hby;go_wp2;go_roundw
   case rel =>
    refine⟨kk+1,ss++wd,by go_num,by omega,⟨?_⟩,⟨?_⟩,hBK',hBy',hbe,by simp;omega,by simp;omega⟩
    ·rw[htf.out,←List.cons_append,←hss.out]
    ·have:=hown'.out
     simpa [EK]using this
   case measure=>simp[intOf];omega
  ·have hkl:kk=(AU op).length:=by omega
   have hfin:Jr ⟨op,d,s,t,u,a,k,q⟩=ss:=by
    rw[hss.out,hkl,List.take_length];rfl
   obtain⟨hl1,hc1⟩:=hown.out;have hc2:∃ g cap cur,u5=.slice (some ⟨g,0,none⟩) ss.length cap∧w.heap.size≤g∧wr.heap[g]?=some (.cells cur 9 (0,0))∧ss.length≤cap∧cap≤maxLen∧cur.size=cap*1∧cur.toList.take (ss.length*1)=EK ss:=by
    rcases hc1 with ⟨_,h⟩ |h
    ·omega
    ·exact h
   obtain⟨g,cap,cur,hv,hg,hblk,hle,hml,hcs,htk⟩:=hc2;clear hc1;rw[hv];have hcells:∀ (j:Nat) x,(ss.map fun l=>(⟨l.toArray⟩:ByteArray))[j]?=some x→wr.cell? ⟨g,0+j,none⟩=some (.string x):=fun j x hj=>by
    have:=(DI.cells ⟨cur,hblk,hle,hml,by omega,by simpa [EK]using htk⟩:∀ j u,(ss.map fun l=>Value.string ⟨l.toArray⟩)[j]?=some u→_) j (.string x) (by
     rw[List.getElem?_map]at hj ⊢;cases hs:ss[j]? with
     |none=>rw[hs]at hj;cases hj
     |some l=>rw[hs]at hj;cases hj;rfl)
    rw[add_plain]at this
    simpa using this
   have hgz:g<wr.heap.size:=Bl hblk;have hjl:(Lib.join ((ss.map fun l=>(⟨l.toArray⟩:ByteArray)).map (·.data.toList)) (⟨#[32]⟩:ByteArray).data.toList)=Bh ⟨op,d,s,t,u,a,k,q⟩:=by
    unfold Bh;rw[hfin,List.map_map]
    congr 1
    conv=>rhs;rw[←List.map_id ss]
    rfl
   have hjn:=PQ ⟨op,d,s,t,u,a,k,q⟩ hfit;have hll:(ss.map fun l=>(⟨l.toArray⟩:ByteArray)).length=ss.length:=List.length_map ..;have HJ:=Az (Tryz.strings_Join g 0 cap (ss.map fun l=>(⟨l.toArray⟩:ByteArray)) ⟨#[32]⟩ wr hcells hgz (by rw[hll];omega) (by rw[hll];exact hle) (by rw[hjl];omega));rw[hll,hjl]at HJ;clear hcells hblk hcs htk hjl hll hfin hl1 hkl hv hss;go_wp2_with fail
   refine HJ.out.mono ?_;rintro e w5 ⟨rfl,hb5⟩;go_wp2;go_ret2
   exact⟨rfl,hB.out.trans (hb5.mono (by have:=hB.out.size;omega))⟩
theorem NZ(op d s t u a k q:Int)(w:World)(hr:AD ⟨op,d,s,t,u,a,k,q⟩ 1073741824=false)(hwk:0≤k∧k≤4294967295) :
  Calls Tryz.prog 151 #[.agg #[.int .i64 op,.int .i64 d,.int .i64 s,.int .i64 t,.int .i64 u,.int .i64 a,.int .u32 k,.int .i64 q]] w fun e w' =>
   e=.returned (.tuple #[.string ⟨#[]⟩,.int .i64 1])∧Below w.heap.size w w':=by
 have HR:=Az (I5 ⟨op,d,s,t,u,a,k,q⟩ 1073741824 hwk);replace hr:=Az hr;go_enter Tryz.func151,Tryz.ntmps151;go_wp2_with fail
 refine(HR.out _).mono ?_;rintro e w1 ⟨rfl,hb1⟩;rw[hr.out];go_wp2;go_ret2
 exact⟨rfl,((Below.refl w.heap.size w).alloc (Nl _) _).trans (hb1.mono (by simp))⟩
theorem Fq(i:In)(hwk:i.wk)(w:World)(he:Env w) :
  Calls Tryz.prog 151 #[i.v] w fun e w'=>e=.returned (.tuple #[.string ⟨(DF i).1.toArray⟩,.int .i64 (DF i).2])∧Below w.heap.size w w':=by
 cases i with
 |mk op d s t u a k q =>
  unfold DF;cases hr:AD ⟨op,d,s,t,u,a,k,q⟩ 1073741824 with
  |true =>
   rw[if_pos rfl];exact NY op d s t u a k q w he hr hwk
  |false =>
   rw[if_neg (by simp)];exact NZ op d s t u a k q w hr hwk
end
end Go.Proofs.YtjjpiefgdggghaaGreatDoor

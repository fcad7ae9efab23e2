/- Parts: Words. -/
import Derived.Test.YtjjpiefgdggghaaGreatDoorZ02
import Derived.Test.YtjjpiefgdggghaaGreatDoorZ07
import Derived.Test.YtjjpiefgdggghaaGreatDoorZ09
import Derived.Deep.QuietTactic
import Derived.BigQuiet
import Derived.Deep.RegionHeld3
import Derived.Deep.DeepCutAuto
set_option linter.unusedVariables false
set_option linter.unusedSimpArgs false
set_option maxRecDepth 100000
set_option maxHeartbeats 40000000
namespace Go.Proofs.YtjjpiefgdggghaaGreatDoor
section
open Go.RowKit Go.Proofs.YtjjpiefgdggghaaGreatDoorW.PrintWords
def Dd(w:World)(g c:Nat)(ss:List (List UInt8)):Prop :=
 ∃ cur:Array Value,w.heap[g]?=some (.cells cur 9 (0,0))∧ss.length≤c∧c≤maxLen∧cur.size=c∧cur.toList.take ss.length=ss.map fun l=>Value.string ⟨l.toArray⟩
theorem Eh(v:Int)(h:0≤v∧v≤7)(w:World) :
  Calls Tryz.prog 48 #[.int .i64 v] w fun e w'=>e=.returned (.string ⟨(dec v).toArray⟩)∧w'=w:=by
 obtain⟨n,rfl⟩:=Int.eq_ofNat_of_zero_le h.1;refine(Tryz.strconv_Itoa_small n (by omega) w).mono ?_;rintro e w' ⟨rfl,rfl⟩;exact⟨by simp[dec],rfl⟩
theorem row_one(w:World)(s:ByteArray)(l:List UInt8)(h:s=⟨l.toArray⟩):Dd (w.alloc (.cells #[.string s] 9)) w.heap.size 1 [l] :=
 ⟨_,Bv _ _,Nl _,by simp[maxLen],rfl,by rw[h];rfl⟩
theorem IW(w:World)(o:Obj)(s:ByteArray)(l:List UInt8)(h:s=⟨l.toArray⟩):Dd ((w.alloc o).alloc (.cells #[.string s] 9)) (w.heap.size+1) 1 [l]:=by
 have:=row_one (w.alloc o) s l h
 simpa using this
theorem KZ(op d s t u a k q sg:Int)(j:Nat)(v:Int)(w:World)(hfo:Ap sg=some j)(hj:j≠5)(hv:In.get ⟨op,d,s,t,u,a,k,q⟩ j=v)(hv7:0≤v∧v≤7) :
  Calls Tryz.prog 169 #[.agg #[.int .i64 op,.int .i64 d,.int .i64 s,.int .i64 t,.int .i64 u,.int .i64 a,.int .u32 k,.int .i64 q],.int .u8 sg] w fun e w' =>
   ∃ g c,e=.returned (.slice (some ⟨g,0,none⟩) 1 c)∧w.heap.size≤g∧Dd w' g c [114::dec v]∧Below w.heap.size w w':=by
 have hbd:=E2 hfo;have n65:(sg != 65)=true:=by
  rcases BM hfo with ⟨rfl,_⟩ |⟨rfl,_⟩ |⟨rfl,_⟩ |⟨rfl,_⟩ |⟨rfl,rfl⟩
  all_goals first |rfl |omega
 have cj:∀ o,(w.alloc (.cells #[.int .i64 op,.int .i64 d,.int .i64 s,.int .i64 t,.int .i64 u,.int .i64 a,.int .u32 k,.int .i64 q] o)).cell? ⟨w.heap.size,j,none⟩=some (.int .i64 v):=fun o=>by
  rw[←hv];exact(Bc (Bv _ _) j).trans (In.c ⟨op,d,s,t,u,a,k,q⟩ j hbd.1 hbd.2)
 replace cj:=cj 126;have hdl:(dec v).length≤20:=Cj _ (by omega);replace hfo:=Az hfo;replace hv:=Az hv;go_enter Tryz.func169,Tryz.ntmps169;go_wp2_with fail
 refine(BC _ _ _ _ hfo.out).mono ?_;rintro e w' ⟨rfl,rfl⟩;go_wp2_with fail
 refine(Eh v hv7 _).mono ?_;rintro e w' ⟨rfl,rfl⟩;go_wp2;go_ret;refine⟨w.heap.size+1,1,?_,by omega,?_,?_⟩
 ·rfl
 ·exact IW _ _ _ _ (Bi [114] (dec v))
 ·exact((Below.refl w.heap.size w).alloc (Nl _) _).alloc (by simp) _
theorem JV(op d s t u a k q:Int)(w:World)(hv7:0≤a∧a≤7) :
  Calls Tryz.prog 169 #[.agg #[.int .i64 op,.int .i64 d,.int .i64 s,.int .i64 t,.int .i64 u,.int .i64 a,.int .u32 k,.int .i64 q],.int .u8 65] w fun e w' =>
   ∃ g c,e=.returned (.slice (some ⟨g,0,none⟩) 1 c)∧w.heap.size≤g∧Dd w' g c [dec a]∧Below w.heap.size w w':=by
 have hdl:(dec a).length≤20:=Cj _ (by omega);go_enter Tryz.func169,Tryz.ntmps169;go_wp2_with fail
 refine(BC _ _ _ _ (show Ap 65=some 5 from rfl)).mono ?_;rintro e w' ⟨rfl,rfl⟩;go_wp2_with fail
 refine(Eh a hv7 _).mono ?_;rintro e w' ⟨rfl,rfl⟩;go_wp2;go_ret;refine⟨w.heap.size+1,1,?_,by omega,?_,?_⟩
 ·rfl
 ·exact IW _ _ _ _ rfl
 ·exact((Below.refl w.heap.size w).alloc (Nl _) _).alloc (by simp) _
theorem IX(op d s t u a k q:Int)(w:World)(he:Env w)(hq:0≤q∧q≤1073741824) :
  Calls Tryz.prog 169 #[.agg #[.int .i64 op,.int .i64 d,.int .i64 s,.int .i64 t,.int .i64 u,.int .i64 a,.int .u32 k,.int .i64 q],.int .u8 80] w fun e w' =>
   ∃ g c,e=.returned (.slice (some ⟨g,0,none⟩) 1 c)∧w.heap.size≤g∧Dd w' g c [dec q]∧Below w.heap.size w w':=by
 have hdl:(dec q).length≤20:=Cj _ (by omega);replace he:=he.below ((Below.refl w.heap.size w).alloc (Nl _) (.cells (In.cs ⟨op,d,s,t,u,a,k,q⟩) 126));have h0:=Below.alloc (Below.refl w.heap.size w) (Nl _) (.cells (In.cs ⟨op,d,s,t,u,a,k,q⟩) 126);go_enter Tryz.func169,Tryz.ntmps169;go_wp2_with fail
 refine(AQ _ _ _ (show Ap 80=none from rfl)).mono ?_;rintro e w' ⟨rfl,rfl⟩;go_wp2_with fail
 refine(Fi q hq.1 (by omega) _ he).mono ?_;rintro e w1 ⟨rfl,hb⟩;have hz:=hb.size;simp at hz;go_wp2;go_ret;have hb':=h0.trans (hb.mono (by simp));refine⟨w1.heap.size,1,?_,by omega,?_,?_⟩
 ·rfl
 ·exact row_one _ _ _ rfl
 ·exact hb'.alloc hb'.size _
theorem La(op d s t u a k q sg:Int)(w:World)(he:Env w)(hk:0≤k∧k≤4294967295)(hfo:Ap sg=none)(h80:sg≠80)(h87:sg≠87)(h65:sg≠65) :
  Calls Tryz.prog 169 #[.agg #[.int .i64 op,.int .i64 d,.int .i64 s,.int .i64 t,.int .i64 u,.int .i64 a,.int .u32 k,.int .i64 q],.int .u8 sg] w fun e w' =>
   ∃ g c,e=.returned (.slice (some ⟨g,0,none⟩) 1 c)∧w.heap.size≤g∧Dd w' g c [dec k]∧Below w.heap.size w w':=by
 obtain⟨k,rfl⟩:=Int.eq_ofNat_of_zero_le hk.1;have hdl:(Lib.decDigits k).length≤20:=Cj _ (by omega);have hd:dec (k:Int)=Lib.decDigits k:=by simp[dec]
 rw[hd];clear hd;have g80:(sg==80)=false:=Bq h80;have g87:(sg==87)=false:=Bq h87;have g65:(sg==65)=false:=Bq h65;replace hfo:=Az hfo;replace he:=he.below ((Below.refl w.heap.size w).alloc (Nl _) (.cells (In.cs ⟨op,d,s,t,u,a,k,q⟩) 126));have h0:=Below.alloc (Below.refl w.heap.size w) (Nl _) (.cells (In.cs ⟨op,d,s,t,u,a,k,q⟩) 126);go_enter Tryz.func169,Tryz.ntmps169;go_wp2_with fail
 refine(AQ _ _ _ hfo.out).mono ?_;rintro e w' ⟨rfl,rfl⟩;go_wp2_with fail
 refine(Ih k (by omega) _ he).mono ?_;rintro e w1 ⟨rfl,hb⟩;have hz:=hb.size;simp at hz;go_wp2;go_ret;have hb':=h0.trans (hb.mono (by simp));refine⟨w1.heap.size,1,?_,by omega,?_,?_⟩
 ·rfl
 ·exact row_one _ _ _ rfl
 ·exact hb'.alloc hb'.size _
theorem E3:(Tryz.prog.info? 9).map (fun i=>(i.zero,i.size,i.bytes))=some (some (.string ⟨#[]⟩),1,16):=by kernel_rfl
theorem Hw(op d s t u a k q:Int)(wd:List UInt8)(w:World)(he:Env w)(ht:0≤t∧t≤7)(hq:q = -1)
  (i0:∀ W,(Instr.index 234 (.agg #[.string ⟨#[101,113]⟩,.string ⟨#[110,101]⟩]) (.int .u32 (min k 1))).run Tryz.prog W=.ok (.string ⟨wd.toArray⟩) W) :
  Calls Tryz.prog 169 #[.agg #[.int .i64 op,.int .i64 d,.int .i64 s,.int .i64 t,.int .i64 u,.int .i64 a,.int .u32 k,.int .i64 q],.int .u8 87] w fun e w' =>
   ∃ g c,e=.returned (.slice (some ⟨g,0,none⟩) 2 c)∧w.heap.size≤g∧Dd w' g c [wd,114::dec t]∧Below w.heap.size w w':=by
 have hqb:(q != -1)=false:=bne_eq_false_iff_eq.2 hq;clear hq;have hdl:(dec t).length≤20:=Cj _ (by omega);have hst:=Az (Bi [114] (dec t));obtain⟨i9,hi,hz0,hz1,hz2⟩:=info_parts E3;replace hi:=Az hi;replace hz0:=Az hz0;replace hz1:=Az hz1;replace hz2:=Az hz2;go_enter Tryz.func169,Tryz.ntmps169;go_wp2_with fail
 refine(AQ _ _ _ (show Ap 87=none from rfl)).mono ?_;rintro e w' ⟨rfl,rfl⟩;go_upto_region 10 with fail
 go_cut [7] (fun s7 wx=>s7=.slice (some ⟨w.heap.size+1,0,none⟩) 2 2∧Ai (wx.heap[w.heap.size]?=some (.cells (In.cs ⟨op,d,s,t,u,a,k,q⟩) 126 (0,0))) ∧
  Ai (wx.heap[w.heap.size+1]?=some (.cells #[.string ⟨wd.toArray⟩,.string ⟨(114::dec t).toArray⟩] 9 (0,0)))∧Ai (Below w.heap.size w wx)∧Ai (wx.heap.size=w.heap.size+2))
 case first =>
  have c6:(w.alloc (.cells #[.int .i64 op,.int .i64 d,.int .i64 s,.int .i64 t,.int .i64 u,.int .i64 a,.int .u32 k,.int .i64 q] 126)).cell? ⟨w.heap.size,6,none⟩=some (.int .u32 k):=(Bc (Bv _ _) 6).trans rfl;have c3:(w.alloc (.cells #[.int .i64 op,.int .i64 d,.int .i64 s,.int .i64 t,.int .i64 u,.int .i64 a,.int .u32 k,.int .i64 q] 126)).cell? ⟨w.heap.size,3,none⟩=some (.int .i64 t):=(Bc (Bv _ _) 3).trans rfl;have hsm:¬9223372036854775807<1+(dec t).length:=by omega
  go_region_held3 (fun W=>W.cell? ⟨w.heap.size,6,none⟩=some (.int .u32 k)∧W.cell? ⟨w.heap.size,3,none⟩=some (.int .i64 t)) (go_keep) ((go_at_call 48;refine(Eh t ht _).mono ?_;rintro e w' ⟨rfl,rfl⟩))
  all_goals
   go_wp2_with fail
   go_meet
   exact⟨rfl,⟨Be (As (Bv _ _) _)⟩,⟨Be ((Cx _ _ _).trans (by rw[show(⟨#[114]⟩:ByteArray)++⟨(dec t).toArray⟩=⟨(114::dec t).toArray⟩ from hst.out]))⟩,⟨Bd (((Below.refl w.heap.size w).alloc (Nl _) _).alloc (by simp) _)⟩,⟨by simp⟩⟩
 case rest =>
  obtain⟨rfl,hB0,hB1,hbl,hsz⟩:=hcut;have z2:w.heap.size+1<wc.heap.size:=by have:=hsz.out;omega
  have c7:wc.cell? ⟨w.heap.size,7,none⟩=some (.int .i64 q):=(Bc hB0.out 7).trans rfl;go_wp2;go_ret;exact⟨w.heap.size+1,2,rfl,by omega,⟨_,hB1.out,Nl _,by simp[maxLen],rfl,rfl⟩,hbl.out⟩
theorem Hx(op d s t u a k q:Int)(wd:List UInt8)(w:World)(he:Env w)(ht:0≤t∧t≤7)(hq:0≤q∧q≤1073741824)
  (i0:∀ W,(Instr.index 234 (.agg #[.string ⟨#[101,113]⟩,.string ⟨#[110,101]⟩]) (.int .u32 (min k 1))).run Tryz.prog W=.ok (.string ⟨wd.toArray⟩) W) :
  Calls Tryz.prog 169 #[.agg #[.int .i64 op,.int .i64 d,.int .i64 s,.int .i64 t,.int .i64 u,.int .i64 a,.int .u32 k,.int .i64 q],.int .u8 87] w fun e w' =>
   ∃ g c,e=.returned (.slice (some ⟨g,0,none⟩) 4 c)∧w.heap.size≤g∧Dd w' g c [wd,114::dec t,[101,108,115,101],dec q]∧Below w.heap.size w w':=by
 have hqb:(q != -1)=true:=bne_iff_ne.2 (by omega);have hdl:(dec t).length≤20:=Cj _ (by omega);have hst:=Az (Bi [114] (dec t));obtain⟨i9,hi,hz0,hz1,hz2⟩:=info_parts E3;replace hi:=Az hi;replace hz0:=Az hz0;replace hz1:=Az hz1;replace hz2:=Az hz2;go_enter Tryz.func169,Tryz.ntmps169;go_wp2_with fail
 refine(AQ _ _ _ (show Ap 87=none from rfl)).mono ?_;rintro e w' ⟨rfl,rfl⟩;go_upto_region 10 with fail
 go_cut [7] (fun s7 wx=>s7=.slice (some ⟨w.heap.size+1,0,none⟩) 2 2∧Ai (wx.heap[w.heap.size]?=some (.cells (In.cs ⟨op,d,s,t,u,a,k,q⟩) 126 (0,0))) ∧
  Ai (wx.heap[w.heap.size+1]?=some (.cells #[.string ⟨wd.toArray⟩,.string ⟨(114::dec t).toArray⟩] 9 (0,0)))∧Ai (Below w.heap.size w wx)∧Ai (wx.heap.size=w.heap.size+2))
 case first =>
  have c6:(w.alloc (.cells #[.int .i64 op,.int .i64 d,.int .i64 s,.int .i64 t,.int .i64 u,.int .i64 a,.int .u32 k,.int .i64 q] 126)).cell? ⟨w.heap.size,6,none⟩=some (.int .u32 k):=(Bc (Bv _ _) 6).trans rfl;have c3:(w.alloc (.cells #[.int .i64 op,.int .i64 d,.int .i64 s,.int .i64 t,.int .i64 u,.int .i64 a,.int .u32 k,.int .i64 q] 126)).cell? ⟨w.heap.size,3,none⟩=some (.int .i64 t):=(Bc (Bv _ _) 3).trans rfl;have hsm:¬9223372036854775807<1+(dec t).length:=by omega
  go_region_held3 (fun W=>W.cell? ⟨w.heap.size,6,none⟩=some (.int .u32 k)∧W.cell? ⟨w.heap.size,3,none⟩=some (.int .i64 t)) (go_keep) ((go_at_call 48;refine(Eh t ht _).mono ?_;rintro e w' ⟨rfl,rfl⟩))
  all_goals
   go_wp2_with fail
   go_meet
   exact⟨rfl,⟨Be (As (Bv _ _) _)⟩,⟨Be ((Cx _ _ _).trans (by rw[show(⟨#[114]⟩:ByteArray)++⟨(dec t).toArray⟩=⟨(114::dec t).toArray⟩ from hst.out]))⟩,⟨Bd (((Below.refl w.heap.size w).alloc (Nl _) _).alloc (by simp) _)⟩,⟨by simp⟩⟩
 case rest =>
  obtain⟨rfl,hB0,hB1,hbl,hsz⟩:=hcut;have z2:w.heap.size+1<wc.heap.size:=by have:=hsz.out;omega
  have c7:wc.cell? ⟨w.heap.size,7,none⟩=some (.int .i64 q):=(Bc hB0.out 7).trans rfl;have hwe:=he.below hbl.out;have hdq:(dec q).length≤20:=Cj _ (by omega);go_wp2_with fail
  refine(Fi q (by omega) (by omega) _ hwe).mono ?_;rintro e w1 ⟨rfl,hb⟩;have hz1':=hb.size;have hR:w1.ownsRow w.heap.size 9 1 (.slice (some ⟨w.heap.size+1,0,none⟩) 2 2) 2 [.string ⟨wd.toArray⟩,.string ⟨(114::dec t).toArray⟩] :=
   ⟨rfl,.inr ⟨w.heap.size+1,2,_,rfl,by omega,Bk hb hB1.out,Nl _,by simp[maxLen],rfl,rfl⟩⟩
  replace hR:=Az hR;have hN:=Az (Bv w1 (.cells #[.string ⟨#[101,108,115,101]⟩,.string ⟨(dec q).toArray⟩] 9));have z1:w.heap.size+1<w1.heap.size:=by omega
  have ca:∀ j u,[Value.string ⟨#[101,108,115,101]⟩,Value.string ⟨(dec q).toArray⟩][j]?=some u→(w1.alloc (.cells #[.string ⟨#[101,108,115,101]⟩,.string ⟨(dec q).toArray⟩] 9)).cell? ((⟨w1.heap.size,0,none⟩:Addr).add j)=some u:=fun j u hj=>by
   rw[add_plain];exact(Bc hN.out j).trans (by simpa using hj)
  replace ca:=Az ca;go_wp2_with ((at_builtin;refine wpList_append_own _ rfl (.tmp 53) (.tmp 57) 108 rfl w.heap.size 9 i9 (.string ⟨#[]⟩) 1 16 Tryz.underlying108 hi.out hz0.out hz1.out hz2.out rfl (by decide) _ _ _ rfl (hR.out.alloc _) ⟨w1.heap.size,0,none⟩ 2 2 [.string ⟨#[101,108,115,101]⟩,.string ⟨(dec q).toArray⟩] rfl rfl ca.out ?c2 ?c3 ?c4 ?c5 ?_))
  case c2=>simp[Value.oneCell']
  case c3=>simp[maxLen]
  case c4=>omega
  case c5=>simp;omega
  intro v' w2 hown hgr hnil;have hbz:=hgr.size;simp at hbz;obtain⟨hlen,hcase⟩:=hown;have hcase':∃ g cap cur,v'=.slice (some ⟨g,0,none⟩) 4 cap∧w.heap.size≤g∧w2.heap[g]?=some (.cells cur 9 (0,0))∧4≤cap∧cap≤maxLen∧cur.size=cap*1∧cur.toList.take (4*1)=[.string ⟨wd.toArray⟩,.string ⟨(114::dec t).toArray⟩,.string ⟨#[101,108,115,101]⟩,.string ⟨(dec q).toArray⟩]:=by
   rcases hcase with ⟨_,h⟩ |h
   ·omega
   ·exact h
  clear hcase hlen;obtain⟨g,cap,cur,hv,hg,hblk,h4,hml,hcs,htk⟩:=hcase';clear hnil;rw[hv];have hfin:Dd w2 g cap [wd,114::dec t,[101,108,115,101],dec q]:=⟨cur,hblk,h4,hml,by omega,by simpa using htk⟩
  have hbe:Below w.heap.size w w2:=((hbl.out.trans (hb.mono (by omega))).alloc (by omega) _).grown hgr (by simp;omega) (fun k hk=>by simp[Value.ownBlock]at hk;omega);replace hfin:=Az hfin;clear hblk htk hv hcs;go_wp2;go_ret;exact⟨g,cap,rfl,hg,hfin.out,hbe⟩
end
end Go.Proofs.YtjjpiefgdggghaaGreatDoor

/- Parts: Laid, Ref7, SpecKit, RefName7. -/
import Derived.Test.YtjjpiefgdggghaaGreatDoorCards
import Derived.Test.YtjjpiefgdggghaaGreatDoorTie
import Derived.Test.YtjjpiefgdggghaaGreatDoorK04
import Derived.ProofKit
import Derived.LaidMore
import Derived.OpenShut
import Derived.Deep.DeepHandedRow
import Derived.Lib.LaidTab
import Derived.Lib.LaidU8
import Derived.Stop.LaidErr
import Derived.JoinedCond
import Derived.Deep.DeepWitnessRowRef
import Derived.Test.YtjjpiefgdggghaaGreatDoorK11
import Derived.Test.YtjjpiefgdggghaaGreatDoorK05
import Derived.Test.YtjjpiefgdggghaaGreatDoorK12
import Derived.Test.YtjjpiefgdggghaaGreatDoorK26
import Derived.Test.YtjjpiefgdggghaaGreatDoorK24
import Derived.Deep.RegionHeld3
import Derived.Test.YtjjpiefgdggghaaGreatDoorK10
set_option linter.unusedVariables false
set_option linter.unusedSimpArgs false
set_option maxRecDepth 100000
set_option maxHeartbeats 40000000
namespace Go.Proofs.YtjjpiefgdggghaaGreatDoor
section
open Go Go.ChangeShapes Go.WideShapes Go.ChangeAt Go.RowKit
theorem own:ownKnob Tryz.prog.godebug=none:=by kernel_rfl
theorem AaD:Tryz.prog.globalNamed "internal/strconv.uint64pow10" = some 4:=by kernel_rfl
theorem AaE:Tryz.prog.globalNamed "strconv.ErrSyntax" = some 7:=by kernel_rfl
theorem AaF:Tryz.prog.globalNamed "strconv.ErrRange" = some 8:=by kernel_rfl
theorem AaG:(Tryz.prog.globals[4]?).map (·.type)=some 219:=by kernel_rfl
theorem AaH:(Tryz.prog.globals[7]?).map (·.type)=some 171:=by kernel_rfl
theorem AaI:(Tryz.prog.globals[8]?).map (·.type)=some 171:=by kernel_rfl
theorem c64:Tryz.prog.cellsOf 190=1:=by kernel_rfl
theorem c20:Tryz.prog.cellsOf 219=20:=by kernel_rfl
theorem Se : "*" ++ "errors.errorString" = "*errors.errorString" :=by decide +kernel
theorem Vv(u:TypeId)(h:Tryz.prog.typeName? 3 u=some "*errors.errorString"):u=251 :=
 typeName_ptr_named (nm := "errors.errorString") (by rw[Se];kernel_rfl) (by kernel_rfl) (by decide) u (by rw[Se];exact h)
def PJ:List (String×DataW Unit):=Rows.k42RestsRow.laid
theorem DU{W:World}(h:laidMetH Tryz.prog PJ W)(hs:W.ShapedOpen Tryz.prog):Env W:=by
 rw[MakeChecks.laidMetH_plain _ _ _ (by kernel_rfl)]at h;have h2:=h.tail.tail;have h4:=h2.tail.tail;have h5:=h4.tail;obtain⟨a1,s1,hv1,_⟩:=laid_sentinel h4 AaF AaI Tryz.underlying171 Vv Tryz.underlying251 Tryz.underlying253 rfl rfl Tryz.underlying9 (by kernel_rfl) (by kernel_rfl);obtain⟨a2,s2,hv2,_⟩:=laid_sentinel h5 AaE AaH Tryz.underlying171 Vv Tryz.underlying251 Tryz.underlying253 rfl rfl Tryz.underlying9 (by kernel_rfl) (by kernel_rfl);exact⟨hs,Lib.tabIs_of_head (zs:=Lib.pow10Tab) AaD AaG Tryz.underlying219 Tryz.underlying190 c64 c20 h2,⟨_,_,hv2⟩,⟨_,_,hv1⟩⟩
noncomputable def Bi (os:Os):World :=
 {World.doorLaid Tryz.prog 72 os with heap:=(World.doorLaid Tryz.prog 72 os).heap.modify 2 fun
  |.cells _ t frozen=>.cells (Lib.firstTab.map (Value.int .u8)).toArray t frozen
  |o=>o}
theorem CM(os:Os)(args:Array Value):laidMetH Tryz.prog PJ ((Bi os).forCall (fun _ _=>0) ⟨#[],args,[]⟩).memory :=
 laidMetH_of_parts3 (fuel:=8) (laidMet_of_run' 8 (by kernel_rfl) (by kernel_rfl)) (by kernel_rfl) (by kernel_rfl)
theorem CJ{H:Type}{enc:TypeId×Value→H}{P:Program}{f:Func}{s:ChangeSpec}{W W':World}{args:Array Value}{ds gs:List (DataW H)}{before pa:List MemPlace}{v:Value}
  (hW:DataW.Whole enc P f.params.toList s.vars false W args.toList ds gs before)(hb:Below W.heap.size W W')
  (hres:∀ (b:Nat) (sp:Nat→Bool) (hd:Bool),DataW.TrodAll enc P W' b sp hd f.resultTypes.toList (v.resultList f.resultTypes.size) (s.fn H (ds++gs)).results [])
  (hargs:DataW.TrodAll enc P W' 0 (fun b=>decide (b<W.heap.size)) true f.params.toList args.toList (s.fn H (ds++gs)).args pa)
  (hvars:∀ sp:Nat→Bool,DataW.TrodVars enc P W' sp s.vars (s.fn H (ds++gs)).vars []) :
  s.post enc P f false true false false W args v W' :=
 ⟨ds,gs,before,[],pa,[],hW,hres _ _ _,hargs,hvars _,hb.frame _,fun h=>by cases h⟩
end
section
open Go.RowKit Go.Proofs.YtjjpiefgdggghaaGreatDoorW.PrintWords
theorem TG(i:In)(w:World):Calls Tryz.prog 70 #[i.v] w fun e w'=>e=.returned i.v∧Below w.heap.size w w':=by
 cases i with
 |mk op d s t u a k q =>
  unfold In.v;go_enter Tryz.func70,Tryz.ntmps70;go_wp2;refine bodyPost_ret (results_cell_row rfl _ _ (w.heap.size+1) 114 (In.cs ⟨op,d,s,t,u,a,k,q⟩) (0,0) _ rfl (by exact Dh _ _ _) Tryz.underlying114 rfl (by kernel_rfl)) rfl ⟨rfl,?_⟩;apply_rules [Below.setCell,Below.alloc,Below.refl]<;>first |omega |(simp;omega) |simp
theorem Oy:(Tryz.prog.info? 114).map (fun i=>(i.zero,i.size,i.bytes))=some (some (.agg In.zero.cs),8,64):=by kernel_rfl
def BM(W:World)(base:Nat)(v:Value)(xs:List In):Prop:=W.ownsRow base 114 8 v xs.length (By xs)
theorem BM.nil(W:World)(base:Nat):BM W base (.slice none 0 0) []:=⟨rfl,.inl ⟨rfl,rfl⟩⟩
theorem BM.mono{W:World}{base base':Nat}{v:Value}{xs:List In}(h:BM W base v xs)(hb:base'≤base):BM W base' v xs:=by
 obtain⟨h1,h2⟩:=h;refine⟨h1,?_⟩;rcases h2 with h0 |⟨g,cap,cur,e,hg,r⟩
 ·exact .inl h0
 ·exact .inr ⟨g,cap,cur,e,Nat.le_trans hb hg,r⟩
theorem BM.rd{W:World}{base:Nat}{v:Value}{xs:List In}(h:BM W base v xs):Cg W v xs.length (By xs):=by
 obtain⟨h1,h2⟩:=h;rcases h2 with ⟨rfl,h0⟩ |⟨g,cap,cur,rfl,hg,hh,hc,hm,hs,ht⟩
 ·rw[h0];exact .inl ⟨rfl,_,_,rfl⟩
 ·by_cases hn:0<xs.length
  ·refine .inr ⟨g,cap,rfl,hc,hn,fun j u hj=>(Bc hh j).trans ?_⟩;have hlt:j<xs.length*8:=by rw[←h1];exact(List.getElem?_eq_some_iff.1 hj).1
   rw[←ht,List.getElem?_take_of_lt hlt,Array.getElem?_toList]at hj;exact hj
  ·have h0:xs.length=0:=by omega
   rw[h0];exact .inl ⟨rfl,_,_,rfl⟩
section
variable {ops:Array Oper} {o:Oper} {a:Act} {K:Act→World→Prop} {Q:Exit→Act→World→Prop} {E:Prop} {W:World}
theorem V2(hgd:o.guard=none)(x:Operand)(ho:o.op=.buildSlice 23 1 #[(0,x)])(i:In)(hx:a.eval x=.agg i.cs)
  (h:∀ g W1,Below W.heap.size W W1→W1.heap[g]?=some (.cells i.cs 114 (0,0))→K (a.put o.dst (.slice (some ⟨g,0,none⟩) 1 1)) W1) :
  if Region.wanted o (yielded ops a.tmps)=true then Oper.wp Tryz.prog o a W K Q else E:=by
 rw[if_pos (by simp[Region.wanted,hgd])];obtain⟨i9,hi,hz0,hz1,hz2⟩:=info_parts Oy;refine wp_buildSlice 23 114 1 _ ho i.cs i9 (.agg In.zero.cs) Tryz.underlying23 hi hz0 (by rw[hz1];decide) (by rw[hz1];decide) ?_ (h _ _ (Bw W _) (Bv _ _));rw[hz1];simp only[List.map_toArray,List.map_cons,List.map_nil,hx];cases i
 kernel_rfl
theorem V3(hgd:o.guard=none)(s x:Operand)(ho:o.op=.call {callee:=.builtin .append,args:=#[s,x],argTypes:=#[23,23]})
  (base g:Nat)(y:In)(v:Value)(xs:List In)(hs:a.eval s=v)(hr:BM W base v xs)(hx:a.eval x=.slice (some ⟨g,0,none⟩) 1 1)
  (hy:W.heap[g]?=some (.cells y.cs 114 (0,0)))(hl:xs.length≤1000000)(hb:base≤W.heap.size)
  (h:∀ v' W1,BM W1 base v' (xs++[y])→W.grownBy W1 v.ownBlock→(v'.ownBlock=v.ownBlock∨v'.ownBlock=some W.heap.size)→K (a.put o.dst v') W1) :
  if Region.wanted o (yielded ops a.tmps)=true then Oper.wp Tryz.prog o a W K Q else E:=by
 obtain⟨i9,hi,hz0,hz1,hz2⟩:=info_parts Oy;refine Gh hgd s x 23 ho base 114 i9 (.agg In.zero.cs) 8 64 Tryz.underlying23 hi hz0 hz1 hz2 rfl (by decide) v xs.length (By xs) hs hr g y.cs (0,0) hx hy rfl ?_ hl (by decide) hb ?_
 ·intro u hu;have:u∈y.cs.toList:=hu;simp[In.cs]at this;rcases this with rfl |rfl |rfl |rfl |rfl |rfl |rfl |rfl<;>rfl
 ·intro v' W1 h1 h2 h4;refine h v' W1 ?_ h2 h4;unfold BM;rw[G7,List.length_append];exact h1
end
structure Yd (w W:World) (N:Nat) (l u:Int) (v:Value) (xs:List In):Prop where
 b:Below N w W
 c1:W.heap[N+1]?=some (.cells #[.slice none 0 0,.int .i64 0,.int .i64 0] 25 (0,0))
 c2:W.heap[N+2]?=some (.cells #[v,.int .i64 l,.int .i64 u] 25 (0,0))
 r:BM W N v xs
section
variable {w W W1:World} {N:Nat} {l u:Int} {v v':Value} {xs:List In} {y:In}
theorem Yd.keep(h:Yd w W N l u v xs)(hb:Below W.heap.size W W1):Yd w W1 N l u v xs :=
 ⟨h.b.trans (hb.mono (by have:=Bl h.c1;omega)),Bk hb h.c1,Bk hb h.c2,Om h.r (fun k hk=>hb.block k (Ol h.r k hk))⟩
theorem Yd.app(h:Yd w W N l u v xs)(hr:BM W1 N v' (xs++[y]))(hg:W.grownBy W1 v.ownBlock)(hz:N≤W.heap.size) :
  Below N w W1∧W1.heap[N+1]?=some (.cells #[.slice none 0 0,.int .i64 0,.int .i64 0] 25 (0,0))∧W1.heap[N+2]?=some (.cells #[v,.int .i64 l,.int .i64 u] 25 (0,0)) ∧
   Yd w (W1.setCell ⟨N+2,0,none⟩ v') N l u v' (xs++[y]):=by
 have hb:=h.b.grown hg hz (fun k hk=>Ob h.r k hk);have c1:=Bg h.c1 hg (Oa h.r h.c1 (by decide));have c2:=Bg h.c2 hg (Oa h.r h.c2 (by decide));exact⟨hb,c1,c2,hb.setCell (show N≤N+2 by omega) _,(Below.heap_setCell W1 ⟨N+2,0,none⟩ v' _ (show N+1≠N+2 by omega)).trans c1,Bs c2 0 _,Rs hr c2 (by decide) 0 v'⟩
end
def r7S(N b:Nat)(v:Value)(i:In)(W:World):Prop :=
 W.cell? ⟨N+2,0,none⟩=some v∧W.cell? ⟨b,0,none⟩=some (.int .i64 i.op)∧W.cell? ⟨b,1,none⟩=some (.int .i64 i.d)∧W.cell? ⟨b,2,none⟩=some (.int .i64 i.s)∧W.cell? ⟨b,3,none⟩=some (.int .i64 i.t) ∧
 W.cell? ⟨b,4,none⟩=some (.int .i64 i.u)∧W.cell? ⟨b,5,none⟩=some (.int .i64 i.a)∧W.cell? ⟨b,6,none⟩=some (.int .u32 i.k)∧W.cell? ⟨b,7,none⟩=some (.int .i64 i.q)
theorem Xz{W:World}{N b:Nat}{v:Value}{i:In}{l u:Int}(hc:W.heap[N+2]?=some (.cells #[v,.int .i64 l,.int .i64 u] 25 (0,0)))(he:W.heap[b]?=some (.cells i.cs 126 (0,0))):r7S N b v i W :=
 ⟨(Bc hc 0).trans rfl,(Bc he 0).trans rfl,(Bc he 1).trans rfl,(Bc he 2).trans rfl,(Bc he 3).trans rfl,(Bc he 4).trans rfl,(Bc he 5).trans rfl,(Bc he 6).trans rfl,(Bc he 7).trans rfl⟩
theorem Rn(va:Value)(l u:Int)(xs:List In)(w:World)(ha:Cg w va xs.length (By xs))(hn:xs.length≤1000) :
  Calls Tryz.prog 39 #[.agg #[va,.int .i64 l,.int .i64 u]] w fun e W=>∃ v,e=.returned (.agg #[v,.int .i64 l,.int .i64 u])∧BM W w.heap.size v xs∧Below w.heap.size w W:=by
 obtain⟨A,c,rfl⟩:=ha.slice;obtain⟨n,hl⟩:∃ n,xs.length=n:=⟨_,rfl⟩
 rw[hl]at ha hn ⊢;have h0:Yd w (((w.alloc (.cells #[.slice A n c,.int .i64 l,.int .i64 u] 35)).alloc (.cells #[.slice none 0 0,.int .i64 0,.int .i64 0] 25)).alloc (.cells #[.slice none 0 0,.int .i64 l,.int .i64 u] 25)) w.heap.size l u (.slice none 0 0) []:=by
  obtain⟨w1,e1⟩:∃ x,w.alloc (.cells #[.slice A n c,.int .i64 l,.int .i64 u] 35)=x:=⟨_,rfl⟩
  have z1:w1.heap.size=w.heap.size+1:=by rw[←e1];simp
  have k1:Below w.heap.size w w1:=e1▸Bw w _;rw[e1];obtain⟨w2,e2⟩:∃ x,w1.alloc (.cells #[.slice none 0 0,.int .i64 0,.int .i64 0] 25)=x:=⟨_,rfl⟩
  have z2:w2.heap.size=w.heap.size+2:=by rw[←e2];simp[z1]
  have k2:Below w1.heap.size w1 w2:=e2▸Bw w1 _;have n1:w2.heap[w.heap.size+1]?=_:=e2▸z1▸Bv w1 _;rw[e2];have n2:(w2.alloc (.cells #[.slice none 0 0,.int .i64 l,.int .i64 u] 25)).heap[w.heap.size+2]?=_:=z2▸Bv w2 _;exact⟨(k1.trans (k2.mono (by omega))).trans ((Bw w2 _).mono (by omega)),AF n1 _,n2,BM.nil _ _⟩
 replace h0:=Az h0;replace ha:=Az ha;replace hl:=Az hl;go_enter Tryz.func39,Tryz.ntmps39;go_wp2_with fail
 simp only[Nat.add_assoc,Nat.reduceAdd];go_loopw [14] (fun v14 wr=>∃ (k:Nat) (v:Value),v14=.int .i64 k∧k≤n∧Af (Yd w wr w.heap.size l u v (xs.take k))) (fun v14 _=>n-(intOf v14).toNat)
 case atStart=>exact⟨0,.slice none 0 0,rfl,Nat.zero_le _,⟨by simpa using h0.out⟩⟩
 case round =>
  obtain⟨k,v,rfl,hk,hI⟩:=hrel;by_cases hlt:k<n
  ·obtain⟨ga,c',hva,hca⟩:=(ha.out.keep hI.out.b).cells (by omega);obtain⟨rfl,rfl⟩:A=some ⟨ga,0,none⟩∧c=c':=by injection hva with h1 h2 h3;exact⟨h1,h3⟩
   have hkx:k<xs.length:=by rw[hl.out];exact hlt
   have htake:=Dz xs k In.zero hkx;have hsn:xs.take (k+1)=xs.take k++[xs.getD k In.zero]:=by
    rw[List.take_add_one,List.getElem?_eq_getElem hkx];simp[List.getD_eq_getElem?_getD,List.getElem?_eq_getElem hkx]
   obtain⟨⟨op,dd,s,t,uu,a,kk,q⟩,hi⟩:∃ i,xs.getD k In.zero=i:=⟨_,rfl⟩
   rw[hi]at hsn;obtain⟨a0,a1,a2,a3,a4,a5,a6,a7⟩:=FI hca hkx hi;obtain⟨V,m,cv,rfl⟩:=AB hI.out.r;have hk0:(0:Int)≤(k:Int):=by omega
   have hk1:(k:Int)<(n:Int):=by omega
   have hkw:IntKind.i64.wrap ((k:Int)+1)=(k:Int)+1:=by rw[IntKind.wrap_i64];omega
   have R6:=fun W=>TG ⟨op,dd,s,t,uu,a,kk,q⟩ W
   dsimp only[In.v]at R6;replace R6:=Az R6;have hlk:(xs.take k).length≤1000000:=by rw[List.length_take];omega
   replace hlk:=Az hlk;replace hsn:=Az hsn;have hE:=Az (Bv wr (.cells (In.cs ⟨op,dd,s,t,uu,a,kk,q⟩) 126));have hI2:=Az (hI.out.keep (Bw wr (.cells (In.cs ⟨op,dd,s,t,uu,a,kk,q⟩) 126)));obtain⟨b,hb⟩:∃ b,wr.heap.size=b:=⟨_,rfl⟩
   obtain⟨w5,hw5⟩:∃ y,wr.alloc (.cells (In.cs ⟨op,dd,s,t,uu,a,kk,q⟩) 126)=y:=⟨_,rfl⟩
   rw[hw5,hb]at hE;rw[hw5]at hI2;simp only[In.cs]at hw5;clear hva hca hi htake hkx;go_upto_region 5 with fail
   try rw[hw5]
   try rw[hb]
   clear hw5 hb a0 a1 a2 a3 a4 a5 a6 a7 hI;have hd0:Below w5.heap.size w5 w5.drew:=Bd (Below.refl _ _);replace hI2:=hI2.out.keep hd0;replace hE:=Bk hd0 hE.out;have hS:=Xz (b:=b) hI2.c2 hE;refine Aw [7] (S:=r7S w.heap.size b (.slice V m cv) ⟨op,dd,s,t,uu,a,kk,q⟩) (by kernel_rfl) hS (fun hS0=>?_);clear hS hd0;generalize w5.drew=w5 at *;refine tY 0 (fun _=>by assumption) ?_;refine tL 1 (by assumption) ?_;refine tL 2 (by assumption) ?_;refine Ab (rs:=[3]) (by kernel_rfl) (by simp) ?_;refine Aa.cons (o:=?oq3) ?hoq3 (fun K hK=>?_) Aa.nil;case hoq3=>refine An ?_;rfl
   go_simp
   go_at_call 70
   refine(R6.out _).mono ?_;rintro e w6 ⟨rfl,hb6⟩;replace hI2:=hI2.keep hb6;replace hE:=Bk hb6 hE;clear hS0 R6;go_wp2_with fail
   refine hK.out _ _ (fun _=>Xz hI2.c2 hE) (fun hS6=>?_);replace hS6:=hS6 rfl;try simp only[Act.put,Sa,Sb,Sc]
   refine Ab (rs:=[4]) (by kernel_rfl) (by simp) ?_;refine Aa.cons (An rfl) (fun K hK=>?_) Aa.nil;refine V2 rfl (.tmp 21) rfl ⟨op,dd,s,t,uu,a,kk,q⟩ rfl (fun g22 w7 hb7 hy=>?_);replace hI2:=hI2.keep hb7;replace hE:=Bk hb7 hE;refine hK.out _ _ (fun _=>Xz hI2.c2 hE) (fun hS7=>?_);replace hS7:=hS7 rfl;try simp only[Act.put,Sa,Sb,Sc]
   refine Ab (rs:=[5]) (by kernel_rfl) (by simp) ?_;refine Aa.cons (An rfl) (fun K hK=>?_) Aa.nil;refine V3 rfl (.tmp 19) (.tmp 22) rfl w.heap.size g22 ⟨op,dd,s,t,uu,a,kk,q⟩ _ (xs.take k) rfl hI2.r rfl hy hlk.out (by have:=Bl hI2.c1;omega) (fun v' w8 hr hg _=>?_);obtain⟨q1,q2,q3,hI3⟩:=hI2.app hr hg (by have:=Bl hI2.c1;omega);obtain⟨V',m',cv',rfl⟩:=AB hr;refine hK.out _ _ (fun _=>Xz q3 (Bg hE hg (Oa hI2.r hE (by decide)))) (fun hS8=>?_);replace hS8:=hS8 rfl;try simp only[Act.put,Sa,Sb,Sc]
   refine tY 6 (fun _=>by assumption) ?_;have c0:w8.cell? ⟨w.heap.size+2,0,none⟩=some (.slice V m cv):=(Bc q3 0).trans rfl;have f0:=Bf q3 0;have z0:w.heap.size+2<w8.heap.size:=Bl q3;replace hI3:=Az hI3;clear hS6 hS7 hS8 q1 q2 q3 hr hg hI2 hE;refine Ab (rs:=[7]) (by kernel_rfl) (by simp) ?_;refine Aa.cons (An rfl) (fun K hK=>?_) Aa.nil;go_simp
   go_wp2_with fail
   refine hK.out _ _ (fun h=>by cases h) (fun _=>?_);try simp only[Act.put,Sa,Sb,Sc]
   refine A4 (by kernel_rfl) ?_ _;go_wp2_with fail
   go_roundw
   case rel=>exact⟨k+1,_,by go_num,hlt,⟨by rw[hsn.out];exact hI3.out⟩⟩
   case measure=>simp[intOf];omega
  ·obtain rfl:k=n:=by omega
   have hge:¬(k:Int)<(k:Int):=by omega
   have e0:xs.take k=xs:=by rw[←hl.out];exact List.take_length
   rw[e0]at hI;obtain⟨V,m,cv,rfl⟩:=AB hI.out.r;have r0:wr.cell? ⟨w.heap.size+2,0,none⟩=some (.slice V m cv):=(Bc hI.out.c2 0).trans rfl;have r1:wr.cell? ⟨w.heap.size+2,1,none⟩=some (.int .i64 l):=(Bc hI.out.c2 1).trans rfl;have r2:wr.cell? ⟨w.heap.size+2,2,none⟩=some (.int .i64 u):=(Bc hI.out.c2 2).trans rfl;have d0:wr.cell? ⟨w.heap.size+1,0,none⟩=some (.slice none 0 0):=(Bc hI.out.c1 0).trans rfl;have d1:wr.cell? ⟨w.heap.size+1,1,none⟩=some (.int .i64 0):=(Bc hI.out.c1 1).trans rfl;have d2:wr.cell? ⟨w.heap.size+1,2,none⟩=some (.int .i64 0):=(Bc hI.out.c1 2).trans rfl;have f0:=Bf hI.out.c1 0;have f1:=Bf hI.out.c1 1;have f2:=Bf hI.out.c1 2;have z0:w.heap.size+1<wr.heap.size:=Bl hI.out.c1;have fin:∀ W',W'=((wr.setCell ⟨w.heap.size+1,0,none⟩ (.slice V m cv)).setCell ⟨w.heap.size+1,1,none⟩ (.int .i64 l)).setCell ⟨w.heap.size+1,2,none⟩ (.int .i64 u) →
     W'.heap[w.heap.size+1]?=some (.cells #[.slice V m cv,.int .i64 l,.int .i64 u] 25 (0,0))∧BM W' w.heap.size (.slice V m cv) xs∧Below w.heap.size w W':=by
    rintro W' rfl;have h1:=Bs hI.out.c1 0 (.slice V m cv);have r1:=Rs hI.out.r hI.out.c1 (by decide) 0 (.slice V m cv);have b1:=hI.out.b.setCell (show w.heap.size≤w.heap.size+1 by omega) (p:=⟨w.heap.size+1,0,none⟩) (.slice V m cv);have h2:=Bs h1 1 (.int .i64 l);have r2:=Rs r1 h1 (by decide) 1 (.int .i64 l);have b2:=b1.setCell (show w.heap.size≤w.heap.size+1 by omega) (p:=⟨w.heap.size+1,1,none⟩) (.int .i64 l);have r3:=Rs r2 h2 (by decide) 2 (.int .i64 u);exact⟨Bs h2 2 (.int .i64 u),r3,b2.setCell (show w.heap.size≤w.heap.size+1 by omega) (p:=⟨w.heap.size+1,2,none⟩) (.int .i64 u)⟩
   replace fin:=Az fin;clear hI e0;go_wp2;obtain⟨g1,g2,g3⟩:=fin.out _ rfl;refine bodyPost_ret (results_cell_row rfl _ _ (w.heap.size+1) 25 #[.slice V m cv,.int .i64 l,.int .i64 u] (0,0) _ rfl g1 Tryz.underlying25 rfl (by kernel_rfl)) rfl ⟨_,rfl,g2,g3⟩
theorem PS{W W1:World}{g:Nat}{x0 x1 x2 x3 x4 x5 x6:Value}(hb:Below W.heap.size W W1)
  (h:W.cell? ⟨g,0,none⟩=some x0∧W.cell? ⟨g,1,none⟩=some x1∧W.cell? ⟨g,2,none⟩=some x2∧W.cell? ⟨g,3,none⟩=some x3∧W.cell? ⟨g,4,none⟩=some x4∧W.cell? ⟨g,5,none⟩=some x5∧W.cell? ⟨g,6,none⟩=some x6) :
  W1.cell? ⟨g,0,none⟩=some x0∧W1.cell? ⟨g,1,none⟩=some x1∧W1.cell? ⟨g,2,none⟩=some x2∧W1.cell? ⟨g,3,none⟩=some x3∧W1.cell? ⟨g,4,none⟩=some x4∧W1.cell? ⟨g,5,none⟩=some x5∧W1.cell? ⟨g,6,none⟩=some x6 :=
 ⟨Ck hb h.1,Ck hb h.2.1,Ck hb h.2.2.1,Ck hb h.2.2.2.1,Ck hb h.2.2.2.2.1,Ck hb h.2.2.2.2.2.1,Ck hb h.2.2.2.2.2.2⟩
theorem BL(va:Value)(l u each:Int)(B C D:Option Addr)(n1 n2 n3 k1 k2 k3:Nat)(xs:List In)(w:World)(ha:Cg w va xs.length (By xs))(hn:xs.length≤1000) :
  Calls Tryz.prog 15 #[.agg #[va,.int .i64 l,.int .i64 u,.slice B n1 k1,.slice C n2 k2,.int .i64 each,.slice D n3 k3]] w fun e W=>∃ v,e=.returned (.agg #[v,.int .i64 l,.int .i64 u,.slice B n1 k1,.slice C n2 k2,.int .i64 each,.slice D n3 k3])∧BM W w.heap.size v xs∧Below w.heap.size w W:=by
 have C7:=Az (fun(W:World) (hb:Below w.heap.size w W)=>Rn va l u xs W (ha.keep hb) hn);obtain⟨A,c,rfl⟩:=ha.slice;clear ha hn;generalize xs.length=n at *;have hB0:=Az (((Below.refl w.heap.size w).alloc (Nl _) (.cells #[.slice A n c,.int .i64 l,.int .i64 u,.slice B n1 k1,.slice C n2 k2,.int .i64 each,.slice D n3 k3] 37)).alloc (by simp) (.cells #[.slice none 0 0,.int .i64 0,.int .i64 0,.slice none 0 0,.slice none 0 0,.int .i64 0,.slice none 0 0] 29));have b1:=AF (Bv w (.cells #[.slice A n c,.int .i64 l,.int .i64 u,.slice B n1 k1,.slice C n2 k2,.int .i64 each,.slice D n3 k3] 37)) (.cells #[.slice none 0 0,.int .i64 0,.int .i64 0,.slice none 0 0,.slice none 0 0,.int .i64 0,.slice none 0 0] 29);have b2:=Az (Dh w (.cells #[.slice A n c,.int .i64 l,.int .i64 u,.slice B n1 k1,.slice C n2 k2,.int .i64 each,.slice D n3 k3] 37) (.cells #[.slice none 0 0,.int .i64 0,.int .i64 0,.slice none 0 0,.slice none 0 0,.int .i64 0,.slice none 0 0] 29));go_enter Tryz.func15,Tryz.ntmps15;obtain⟨w2,hw2⟩:∃ y,(w.alloc (.cells #[.slice A n c,.int .i64 l,.int .i64 u,.slice B n1 k1,.slice C n2 k2,.int .i64 each,.slice D n3 k3] 37)).alloc (.cells #[.slice none 0 0,.int .i64 0,.int .i64 0,.slice none 0 0,.slice none 0 0,.int .i64 0,.slice none 0 0] 29)=y:=⟨_,rfl⟩
 rw[hw2]at hB0 b1 b2;go_upto_region 1 with fail
 try rw[hw2]
 clear hw2;have hS:w2.drew.cell? ⟨w.heap.size,0,none⟩=some (.slice A n c)∧w2.drew.cell? ⟨w.heap.size,1,none⟩=some (.int .i64 l)∧w2.drew.cell? ⟨w.heap.size,2,none⟩=some (.int .i64 u)∧w2.drew.cell? ⟨w.heap.size,3,none⟩=some (.slice B n1 k1)∧w2.drew.cell? ⟨w.heap.size,4,none⟩=some (.slice C n2 k2)∧w2.drew.cell? ⟨w.heap.size,5,none⟩=some (.int .i64 each)∧w2.drew.cell? ⟨w.heap.size,6,none⟩=some (.slice D n3 k3) :=
  ⟨(Bc b1 0).trans rfl,(Bc b1 1).trans rfl,(Bc b1 2).trans rfl,(Bc b1 3).trans rfl,(Bc b1 4).trans rfl,(Bc b1 5).trans rfl,(Bc b1 6).trans rfl⟩
 refine Aw [12] (S:=fun W=>W.cell? ⟨w.heap.size,0,none⟩=some (.slice A n c)∧W.cell? ⟨w.heap.size,1,none⟩=some (.int .i64 l)∧W.cell? ⟨w.heap.size,2,none⟩=some (.int .i64 u)∧W.cell? ⟨w.heap.size,3,none⟩=some (.slice B n1 k1)∧W.cell? ⟨w.heap.size,4,none⟩=some (.slice C n2 k2)∧W.cell? ⟨w.heap.size,5,none⟩=some (.int .i64 each)∧W.cell? ⟨w.heap.size,6,none⟩=some (.slice D n3 k3)) (by kernel_rfl) hS (fun hS0=>?_);replace hB0:=Az (hB0.out.trans ((Bd (Below.refl _ w2)).mono hB0.out.size));replace b2:=Az (Be b2.out);clear hS b1;generalize w2.drew=w2 at *;refine tY 0 (fun _=>by assumption) ?_;refine tL 1 (by assumption) ?_;refine tY 3 (fun _=>by assumption) ?_;refine tL 4 (by assumption) ?_;refine tY 5 (fun _=>by assumption) ?_;refine tL 6 (by assumption) ?_;refine tY 7 (fun _=>by assumption) ?_;refine tL 8 (by assumption) ?_;refine tY 9 (fun _=>by assumption) ?_;refine tL 10 (by assumption) ?_;refine Ab (rs:=[2]) (by kernel_rfl) (by simp) ?_;refine Aa.cons (o:=?oq2) ?hoq2 (fun K hK=>?_) Aa.nil;case hoq2=>refine An ?_;rfl
 go_simp
 go_at_call 39
 refine(C7.out _ hB0.out).mono ?_;rintro e w3 ⟨v,rfl,hr,hb⟩;obtain⟨V,m,kv,rfl⟩:=AB hr;have hS3:=PS hb hS0;replace hr:=Az (show BM w3 w2.heap.size _ xs∧w.heap.size≤w2.heap.size from⟨hr,hB0.out.size⟩);replace hB0:=Az (hB0.out.trans (hb.mono hB0.out.size));replace b2:=Az (Bk hb b2.out);clear hS0 hb C7;go_wp2_with fail
 refine hK.out _ _ (fun _=>hS3) (fun _=>?_);try simp only[Act.put,Sa,Sb,Sc]
 refine tY 11 (fun _=>by assumption) ?_;have c0:w3.cell? ⟨w.heap.size+1,0,none⟩=some (.slice none 0 0):=(Bc b2.out 0).trans rfl;have c1:w3.cell? ⟨w.heap.size+1,1,none⟩=some (.int .i64 0):=(Bc b2.out 1).trans rfl;have c2:w3.cell? ⟨w.heap.size+1,2,none⟩=some (.int .i64 0):=(Bc b2.out 2).trans rfl;have c3:w3.cell? ⟨w.heap.size+1,3,none⟩=some (.slice none 0 0):=(Bc b2.out 3).trans rfl;have c4:w3.cell? ⟨w.heap.size+1,4,none⟩=some (.slice none 0 0):=(Bc b2.out 4).trans rfl;have c5:w3.cell? ⟨w.heap.size+1,5,none⟩=some (.int .i64 0):=(Bc b2.out 5).trans rfl;have c6:w3.cell? ⟨w.heap.size+1,6,none⟩=some (.slice none 0 0):=(Bc b2.out 6).trans rfl;have f0:=Bf b2.out 0;have f1:=Bf b2.out 1;have f2:=Bf b2.out 2;have f3:=Bf b2.out 3;have f4:=Bf b2.out 4;have f5:=Bf b2.out 5;have f6:=Bf b2.out 6;have z0:w.heap.size+1<w3.heap.size:=Bl b2.out;have fin:∀ W',W'=((((((w3.setCell ⟨w.heap.size+1,0,none⟩ (.slice V m kv)).setCell ⟨w.heap.size+1,1,none⟩ (.int .i64 l)).setCell ⟨w.heap.size+1,2,none⟩ (.int .i64 u)).setCell ⟨w.heap.size+1,3,none⟩ (.slice B n1 k1)).setCell ⟨w.heap.size+1,4,none⟩ (.slice C n2 k2)).setCell ⟨w.heap.size+1,5,none⟩ (.int .i64 each)).setCell ⟨w.heap.size+1,6,none⟩ (.slice D n3 k3) →
   W'.heap[w.heap.size+1]?=some (.cells #[.slice V m kv,.int .i64 l,.int .i64 u,.slice B n1 k1,.slice C n2 k2,.int .i64 each,.slice D n3 k3] 29 (0,0))∧BM W' w.heap.size (.slice V m kv) xs∧Below w.heap.size w W':=by
  rintro W' rfl;have sb:∀ (W:World) (i:Nat) (x:Value),Below w.heap.size w W→Below w.heap.size w (W.setCell ⟨w.heap.size+1,i,none⟩ x):=fun W i x h=>h.setCell (show w.heap.size≤w.heap.size+1 by omega) x
  have r0:BM w3 w.heap.size (.slice V m kv) xs:=hr.out.1.mono hr.out.2;have h0:=b2.out;have h1:=Bs h0 0 (.slice V m kv);have h2:=Bs h1 1 (.int .i64 l);have h3:=Bs h2 2 (.int .i64 u);have h4:=Bs h3 3 (.slice B n1 k1);have h5:=Bs h4 4 (.slice C n2 k2);have h6:=Bs h5 5 (.int .i64 each);exact⟨Bs h6 6 (.slice D n3 k3),Rs (Rs (Rs (Rs (Rs (Rs (Rs r0 h0 (by decide) 0 _) h1 (by decide) 1 _) h2 (by decide) 2 _) h3 (by decide) 3 _) h4 (by decide) 4 _) h5 (by decide) 5 _) h6 (by decide) 6 _,
   sb _ _ _ (sb _ _ _ (sb _ _ _ (sb _ _ _ (sb _ _ _ (sb _ _ _ (sb _ _ _ hB0.out))))))⟩
 replace fin:=Az fin;clear hB0 b2 hr hS3;refine Ab (rs:=[12]) (by kernel_rfl) (by simp) ?_;refine Aa.cons (An rfl) (fun K hK=>?_) Aa.nil;go_simp
 go_wp2_with fail
 refine hK.out _ _ (fun h=>by cases h) (fun _=>?_);try simp only[Act.put,Sa,Sb,Sc]
 refine A4 (by kernel_rfl) ?_ _;go_wp2;obtain⟨g1,g2,g3⟩:=fin.out _ rfl;refine bodyPost_ret (results_cell_row rfl _ _ (w.heap.size+1) 29 #[.slice V m kv,.int .i64 l,.int .i64 u,.slice B n1 k1,.slice C n2 k2,.int .i64 each,.slice D n3 k3] (0,0) _ rfl g1 Tryz.underlying29 rfl (by kernel_rfl)) rfl ⟨_,rfl,g2,g3⟩
def FX(w:World)(e:Ending)(W:World):Prop :=
 e=.returned (.tuple #[.agg #[.slice none 0 0,.int .i64 0,.int .i64 0,.slice none 0 0,.slice none 0 0,.int .i64 0,.slice none 0 0],.int .i64 5])∧Below w.heap.size w W
theorem OZ:(Tryz.prog.info? 45).map (fun i=>(i.zero,i.size,i.bytes))=some (some (.int .u32 0),1,4):=by kernel_rfl
theorem Ii(k:Nat)(hk:k≤1000000):∃ cs:Array Value,cs.size=k∧(∀ j,j<k→cs[j]?=some (.int .u32 0)) ∧
  ∀ W,(Instr.makeSlice 27 (.int .i64 (k:Int)) (.int .i64 (k:Int))).run Tryz.prog W=.ok (.slice (some ⟨W.heap.size,0,none⟩) k k) (W.alloc (.cells cs 45)):=by
 obtain⟨i9,hi,hz0,hz1,hz2⟩:=info_parts OZ;refine⟨madeCells (Value.int .u32 0).cells (k*1),by rw[size_madeCells,Nat.mul_one],fun j hj=>?_,fun W=>?_⟩
 ·simp[madeCells,Value.cells,hj,Nat.mod_one]
 ·have:=run_makeSlice (P:=Tryz.prog) W 27 45 i9 (.int .u32 0) Tryz.underlying27 hi hz0 .i64 .i64 (k:Int) (k:Int) (by omega) (Int.le_refl _) (by rw[hz1];simp;omega) (by rw[hz2];omega) (by omega);rw[hz1]at this
  simpa using this
structure SpB (w W:World) (N p:Nat) (B C D:Option Addr) (n1 n2 n3 k1 k2 k3:Nat) (each:Int):Prop where
 b:Below N w W
 c:W.heap[N]?=some (.cells #[.slice none 0 0,.int .i64 0,.int .i64 0,.slice none 0 0,.slice none 0 0,.int .i64 0,.slice none 0 0] 37 (0,0))
 q:W.heap[p]?=some (.cells #[.slice none 0 0,.int .i64 0,.int .i64 0,.slice B n1 k1,.slice C n2 k2,.int .i64 each,.slice D n3 k3] 37 (0,0))
 ne:N<p
theorem Cw.mono{W:World}{base base':Nat}{v:Value}{xs:List In}(h:Cw W base v xs)(hb:base'≤base):Cw W base' v xs:=by
 obtain⟨h1,h2⟩:=h;refine⟨h1,?_⟩;rcases h2 with h0 |⟨g,cap,cur,e,hg,r⟩
 ·exact .inl h0
 ·exact .inr ⟨g,cap,cur,e,Nat.le_trans hb hg,r⟩
theorem GZ{w W:World}{N:Nat}(hb:Below N w W)(h:W.heap[N]?=some (.cells #[.slice none 0 0,.int .i64 0,.int .i64 0,.slice none 0 0,.slice none 0 0,.int .i64 0,.slice none 0 0] 37 (0,0))):∀ W',
  W'=((((((W.setCell ⟨N,0,none⟩ (.slice none 0 0)).setCell ⟨N,1,none⟩ (.int .i64 0)).setCell ⟨N,2,none⟩ (.int .i64 0)).setCell ⟨N,3,none⟩ (.slice none 0 0)).setCell ⟨N,4,none⟩ (.slice none 0 0)).setCell ⟨N,5,none⟩ (.int .i64 0)).setCell ⟨N,6,none⟩ (.slice none 0 0) →
  W'.heap[N]?=some (.cells #[.slice none 0 0,.int .i64 0,.int .i64 0,.slice none 0 0,.slice none 0 0,.int .i64 0,.slice none 0 0] 37 (0,0))∧Below N w W':=by
 rintro W' rfl;have sb:∀ (W:World) (i:Nat) (x:Value),Below N w W→Below N w (W.setCell ⟨N,i,none⟩ x):=fun W i x h=>h.setCell (Nl _) x
 exact⟨Bs (Bs (Bs (Bs (Bs (Bs (Bs h 0 _) 1 _) 2 _) 3 _) 4 _) 5 _) 6 _,sb _ _ _ (sb _ _ _ (sb _ _ _ (sb _ _ _ (sb _ _ _ (sb _ _ _ (sb _ _ _ hb))))))⟩
section
variable {w W W1:World} {N p:Nat} {B C D:Option Addr} {n1 n2 n3 k1 k2 k3:Nat} {each:Int}
theorem SpB.keep(h:SpB w W N p B C D n1 n2 n3 k1 k2 k3 each)(hb:Below W.heap.size W W1):SpB w W1 N p B C D n1 n2 n3 k1 k2 k3 each :=
 ⟨h.b.trans (hb.mono (Nat.le_of_lt (Bl h.c))),Bk hb h.c,Bk hb h.q,h.ne⟩
theorem SpB.fin(h:SpB w W N p B C D n1 n2 n3 k1 k2 k3 each){va:Value}{xs:List In}(l u:Int)(hr:Cw W N va xs):∀ W',
  W'=(((((((((W.setCell ⟨p,0,none⟩ va).setCell ⟨p,1,none⟩ (.int .i64 l)).setCell ⟨p,2,none⟩ (.int .i64 u)).setCell ⟨N,0,none⟩ va).setCell ⟨N,1,none⟩ (.int .i64 l)).setCell ⟨N,2,none⟩ (.int .i64 u)).setCell ⟨N,3,none⟩ (.slice B n1 k1)).setCell ⟨N,4,none⟩ (.slice C n2 k2)).setCell ⟨N,5,none⟩ (.int .i64 each)).setCell ⟨N,6,none⟩ (.slice D n3 k3) →
  W'.heap[N]?=some (.cells #[va,.int .i64 l,.int .i64 u,.slice B n1 k1,.slice C n2 k2,.int .i64 each,.slice D n3 k3] 37 (0,0))∧Cw W' N va xs∧Below N w W':=by
 rintro W' rfl;have hne:=h.ne;have sb:∀ (W:World) (g i:Nat) (x:Value),N≤g→Below N w W→Below N w (W.setCell ⟨g,i,none⟩ x):=fun W g i x hg h=>h.setCell (show N≤g from hg) x
 have far:∀ {W:World} {i:Nat} {o:Obj} (v:Value),W.heap[N]?=some o→(W.setCell ⟨p,i,none⟩ v).heap[N]?=some o:=fun v hj=>(Below.heap_setCell _ ⟨_,_,none⟩ v _ (show N≠p by omega)).trans hj
 have p0:=h.q;have p1:=Bs p0 0 va;have p2:=Bs p1 1 (.int .i64 l);have n0:=far (i:=2) (.int .i64 u) (far (i:=1) (.int .i64 l) (far (i:=0) va h.c));have m1:=Bs n0 0 va;have m2:=Bs m1 1 (.int .i64 l);have m3:=Bs m2 2 (.int .i64 u);have m4:=Bs m3 3 (.slice B n1 k1);have m5:=Bs m4 4 (.slice C n2 k2);have m6:=Bs m5 5 (.int .i64 each);have r3:=Rs (Rs (Rs hr p0 (by decide) 0 va) p1 (by decide) 1 (.int .i64 l)) p2 (by decide) 2 (.int .i64 u);have r6:=Rs (Rs (Rs r3 n0 (by decide) 0 va) m1 (by decide) 1 (.int .i64 l)) m2 (by decide) 2 (.int .i64 u);have b3:=sb _ p 2 (.int .i64 u) (by omega) (sb _ p 1 (.int .i64 l) (by omega) (sb _ p 0 va (by omega) h.b));have b6:=sb _ N 2 (.int .i64 u) (by omega) (sb _ N 1 (.int .i64 l) (by omega) (sb _ N 0 va (by omega) b3));exact⟨Bs m6 6 (.slice D n3 k3),Rs (Rs (Rs (Rs r6 m3 (by decide) 3 _) m4 (by decide) 4 _) m5 (by decide) 5 _) m6 (by decide) 6 _,
  sb _ N 6 _ (by omega) (sb _ N 5 _ (by omega) (sb _ N 4 _ (by omega) (sb _ N 3 _ (by omega) b6)))⟩
end

theorem Sn(l:List UInt8)(i:Nat)(hi:i<l.length)(W:World):(Instr.index 9 (.string ⟨l.toArray⟩) (.int .i64 (i:Int))).run Tryz.prog W=.ok (.int .u8 ((l.getD i 0).toNat:Int)) W:=by
 rw[run_index_string W 9 _ .i64 i Tryz.underlying9,dif_pos ⟨by omega,by simp[ByteArray.size];omega⟩];have:(⟨l.toArray⟩:ByteArray)[(i:Int).toNat]'(by simp[ByteArray.size];omega)=l.getD i 0:=by
  simp[List.getD_eq_getElem?_getD,List.getElem?_eq_getElem hi];rfl
 rw[this]
theorem Kj(l:List UInt8)(w:World)(hl:l.length≤1000000):Calls Tryz.prog 63 #[.string ⟨l.toArray⟩] w fun e w'=>e=.returned (.bool (Cp l))∧Below w.heap.size w w':=by
 obtain⟨r,hr⟩:∃ r,Cp l=r:=⟨_,rfl⟩
 rw[hr];have hsz:(⟨l.toArray⟩:ByteArray).size=l.length:=by simp[ByteArray.size]
 replace hr:=Az hr;go_enter Tryz.func63,Tryz.ntmps63;by_cases h1:l.length<1
 ·obtain rfl:r=false:=by rw[←hr.out,Cp,decide_eq_false (by omega)];rfl
  have i1:(l.length:Int)<1:=by omega
  clear h1;go_wp2;go_ret;exact⟨rfl,Below.refl _ _⟩
 have i1:¬(l.length:Int)<1:=by omega
 by_cases h2:16<l.length
 ·obtain rfl:r=false:=by rw[←hr.out,Cp,decide_eq_false (by omega)];rfl
  have i2:(16:Int)<(l.length:Int):=by omega
  clear h1 h2;go_wp2;go_ret;exact⟨rfl,Below.refl _ _⟩
 have i2:¬(16:Int)<(l.length:Int):=by omega
 have hx0:∀ W,(Instr.index 9 (.string ⟨l.toArray⟩) (.int .i64 0)).run Tryz.prog W=.ok (.int .u8 ((l.getD 0 0).toNat:Int)) W:=fun W=>Sn l 0 (by omega) W
 have hlow0:EN (l.getD 0 0)=decide (97≤(l.getD 0 0).toNat∧(l.getD 0 0).toNat≤122):=rfl;have hbad0:EN (l.getD 0 0)=false→r=false:=fun h=>by rw[←hr.out];exact Lt (by omega) h
 have hgood0:EN (l.getD 0 0)=true→Tk l 0∧EN (l.getD 0 0)=true:=fun h=>⟨⟨fun j hj=>by omega,fun h=>by omega⟩,h⟩
 rw[hlow0]at hbad0;obtain⟨b0,hb0⟩:∃ b,(l.getD 0 0).toNat=b:=⟨_,rfl⟩
 rw[hb0]at hx0 hbad0;by_cases c1:b0<97
 ·obtain rfl:r=false:=hbad0 (decide_eq_false (by omega));have r1:decide ((b0:Int)<97)=true:=decide_eq_true (by omega);clear hbad0 hgood0 hlow0 hb0;go_wp2;go_ret;exact⟨rfl,Below.refl _ _⟩
 have r1:decide ((b0:Int)<97)=false:=decide_eq_false (by omega);by_cases c2:122<b0
 ·obtain rfl:r=false:=hbad0 (decide_eq_false (by omega));have r2:decide (122<(b0:Int))=true:=decide_eq_true (by omega);clear hbad0 hgood0 hlow0 hb0;go_wp2;go_ret;exact⟨rfl,Below.refl _ _⟩
 have r2:decide (122<(b0:Int))=false:=decide_eq_false (by omega);have hl0:EN (l.getD 0 0)=true:=by rw[hlow0,hb0,decide_eq_true (by omega)]
 clear hbad0 hgood0 hlow0 hb0;replace hl0:=Az hl0;replace h1:=Az h1;replace h2:=Az h2;go_wp2_with fail
 go_loopw [3] (fun v3 wr=>∃ pos:Nat,v3=.int .i64 (pos:Int)∧pos≤l.length∧wr=w∧Af (Tk l pos)) (fun v3 _=>l.length-(intOf v3).toNat)
 case atStart=>exact⟨0,rfl,Nat.zero_le _,rfl,⟨fun j hj=>by omega,fun h=>by omega⟩⟩
 case round =>
  obtain⟨pos,rfl,hp,rfl,hok⟩:=hrel;clear hx0 r1 r2 i1 i2 c1 c2;by_cases hlt:pos<l.length
  ·have hx:=fun W=>Sn l pos hlt W
   have k0:(0:Int)≤(pos:Int):=by omega
   have k1:(pos:Int)<(l.length:Int):=by omega
   have kw:IntKind.i64.wrap ((pos:Int)+1)=(pos:Int)+1:=by rw[IntKind.wrap_i64];omega
   have hlow:EN (l.getD pos 0)=decide (97≤(l.getD pos 0).toNat∧(l.getD pos 0).toNat≤122):=rfl;have hdig:M1 (l.getD pos 0)=decide (48≤(l.getD pos 0).toNat∧(l.getD pos 0).toNat≤57):=rfl;have hstep:=fun h=>MY (l:=l) hok.out h (fun _=>hl0.out)
   have hbad:=fun h=>hr.out.symm.trans (Jw (l:=l) hlt h)
   rw[hlow,hdig]at hstep hbad;generalize (l.getD pos 0).toNat=b at hx hstep hbad;clear hlow hdig hok;by_cases c1:97≤b∧b≤122
   ·have r1:decide ((97:Int)≤(b:Int))=true:=decide_eq_true (by omega);have r2:decide ((b:Int)≤122)=true:=decide_eq_true (by omega);have hok':=Az (hstep (by rw[decide_eq_true c1];rfl));clear hstep hbad c1;go_wp2;go_roundw
    case rel=>exact⟨pos+1,by go_num,by omega,trivial,hok'⟩
    case measure=>simp[intOf];omega
   by_cases c2:48≤b∧b≤57
   ·have r1:decide ((97:Int)≤(b:Int))=false:=decide_eq_false (by omega);have r3:decide ((48:Int)≤(b:Int))=true:=decide_eq_true (by omega);have r4:decide ((b:Int)≤57)=true:=decide_eq_true (by omega);have hok':=Az (hstep (by rw[decide_eq_true c2];simp));clear hstep hbad c1 c2;go_wp2;go_roundw
    case rel=>exact⟨pos+1,by go_num,by omega,trivial,hok'⟩
    case measure=>simp[intOf];omega
   obtain rfl:r=false:=hbad (by rw[decide_eq_false c1,decide_eq_false c2];rfl);clear hstep hbad;by_cases d1:97≤b
   ·have r1:decide ((97:Int)≤(b:Int))=true:=decide_eq_true (by omega);have r2:decide ((b:Int)≤122)=false:=decide_eq_false (by omega);have r3:decide ((48:Int)≤(b:Int))=true:=decide_eq_true (by omega);have r4:decide ((b:Int)≤57)=false:=decide_eq_false (by omega);clear c1 c2 d1;go_wp2;go_ret;exact⟨rfl,Below.refl _ _⟩
   have r1:decide ((97:Int)≤(b:Int))=false:=decide_eq_false (by omega);by_cases d2:48≤b
   ·have r3:decide ((48:Int)≤(b:Int))=true:=decide_eq_true (by omega);have r4:decide ((b:Int)≤57)=false:=decide_eq_false (by omega);clear c1 c2 d1 d2;go_wp2;go_ret;exact⟨rfl,Below.refl _ _⟩
   have r3:decide ((48:Int)≤(b:Int))=false:=decide_eq_false (by omega);clear c1 c2 d1 d2;go_wp2;go_ret;exact⟨rfl,Below.refl _ _⟩
  ·obtain rfl:pos=l.length:=by omega
   have n1:¬(l.length:Int)<(l.length:Int):=by omega
   obtain⟨g1,g2⟩:=Pt hok.out (by have:=h1.out;omega);obtain rfl:r=true:=by rw[←hr.out,Cp,decide_eq_true ⟨by have:=h1.out;omega,by have:=h2.out;omega⟩,g1,g2];rfl
   go_wp2;go_ret;exact⟨rfl,Below.refl _ _⟩
end
end Go.Proofs.YtjjpiefgdggghaaGreatDoor

/- Parts: Facts, New, RefAsmKit. -/
import Derived.Test.YtjjpiefgdggghaaGreatDoorK27
import Derived.Test.YtjjpiefgdggghaaGreatDoorK05
import Derived.Test.YtjjpiefgdggghaaGreatDoorK12
import Derived.Test.YtjjpiefgdggghaaGreatDoorK29
import Derived.Test.YtjjpiefgdggghaaGreatDoorK24
set_option linter.unusedVariables false
set_option linter.unusedSimpArgs false
set_option maxRecDepth 100000
set_option maxHeartbeats 40000000
namespace Go.Proofs.YtjjpiefgdggghaaGreatDoor
section
open Go Go.ChangeShapes Go.WideShapes Go.ChangeAt Go.RowKit
theorem Fe:laidOutB Tryz.pinned.checked.prog=true:=by kernel_rfl
theorem Ff:mapsRowed Tryz.pinned.checked.prog=true:=by kernel_rfl
theorem DV:(Tryz.pinned.checked.prog.stops==[])=true:=by kernel_rfl
theorem DW:(Tryz.pinned.checked.prog.stopKnobs==[])=true:=by kernel_rfl
theorem DX:Tryz.pinned.checked.prog.stopsHeard=true:=by kernel_rfl
theorem DY:Tryz.pinned.checked.prog.mayEnter=true:=by kernel_rfl
theorem Fh:(Rows.k42RestsRow.lifted==Tryz.pinned.checked.prog.liftsFinal)=true:=by kernel_rfl
theorem Fi:(Tryz.pinned.checked.prog.make==some Rows.k42RestsRow.make)=true:=by kernel_rfl
theorem Fg:(Rows.k42RestsRow.plainKeys==Tryz.pinned.checked.prog.plainKeys)=true:=by kernel_rfl
end
section
open Go.RowKit Go.Proofs.YtjjpiefgdggghaaGreatDoorW.PrintWords
section
variable {ops:Array Oper} {o:Oper} {a:Act} {K:Act→World→Prop} {Q:Exit→Act→World→Prop} {E:Prop} {W:World}
theorem Un:(Tryz.prog.info? 45).map (fun i=>(i.zero,i.size,i.bytes))=some (some (.int .u32 0),1,4):=by kernel_rfl
theorem Uo(hgd:o.guard=none)(s x:Operand)(ho:o.op=.call {callee:=.builtin .append,args:=#[s,x],argTypes:=#[27,27]})
  (base g c:Nat)(v:Value)(xs ys:List Nat)(hs:a.eval s=v)(hr:E6 W base v xs)(hx:a.eval x=.slice (some ⟨g,0,none⟩) ys.length c)(hy:∀ j u,(ys.map fun v:Nat=>Value.int .u32 v)[j]?=some u→W.cell? ⟨g,j,none⟩=some u)
  (hl:xs.length+ys.length≤1000000)(hb:base≤W.heap.size)
  (h:∀ v' W1,E6 W1 base v' (xs++ys)→W.grownBy W1 v.ownBlock→K (a.put o.dst v') W1) :
  if Region.wanted o (yielded ops a.tmps)=true then Oper.wp Tryz.prog o a W K Q else E:=by
 rw[if_pos (by simp[Region.wanted,hgd])];obtain⟨i9,hi,hz0,hz1,hz2⟩:=info_parts Un;obtain⟨v',w',hr',h2,h3,h4,h5⟩:=run_append_own_at (P:=Tryz.prog) W base 27 o.type 45 i9 (.int .u32 0) 1 4 Tryz.underlying27 hi hz0 hz1 hz2 rfl (by decide) v xs.length (xs.map fun x:Nat=>Value.int .u32 x) hr ⟨g,0,none⟩ ys.length c (ys.map fun x:Nat=>Value.int .u32 x) (by simp)
  (fun j u hj=>by rw[add_plain];exact hy j u hj) (by intro u hu;simp at hu;obtain⟨x,_,rfl⟩:=hu;rfl) (by simp[maxLen];omega) (by omega) hb
 unfold Oper.wp execOp;simp only[ho,resolve,invoke,builtin,Sem.run_bind,Sem.run_pure,Result.andThen_ok,List.map_toArray,List.map_cons,List.map_nil,hs,hx,hr'];refine h _ _ ?_ h3;unfold E6;rw[List.map_append,List.length_append];exact h2
theorem Up(hgd:o.guard=none)(x:Operand)(ho:o.op=.buildSlice 92 1 #[(0,x)])(r7:Nat)(hx:a.eval x=.agg #[.int .i64 0,.int .i64 0,.int .i64 0,.int .i64 0,.int .i64 0,.int .i64 0,.int .i64 0,.int .i64 (r7:Int),.int .i64 0])
  (h:∀ g W1,Below W.heap.size W W1→W1.heap[g]?=some (.cells #[.int .i64 0,.int .i64 0,.int .i64 0,.int .i64 0,.int .i64 0,.int .i64 0,.int .i64 0,.int .i64 (r7:Int),.int .i64 0] 155 (0,0))→K (a.put o.dst (.slice (some ⟨g,0,none⟩) 1 1)) W1) :
  if Region.wanted o (yielded ops a.tmps)=true then Oper.wp Tryz.prog o a W K Q else E:=by
 rw[if_pos (by simp[Region.wanted,hgd])];obtain⟨i9,hi,hz0,hz1,hz2⟩:=info_parts MR;refine wp_buildSlice 92 155 1 _ ho #[.int .i64 0,.int .i64 0,.int .i64 0,.int .i64 0,.int .i64 0,.int .i64 0,.int .i64 0,.int .i64 (r7:Int),.int .i64 0] i9 (.agg Ld) Tryz.underlying92 hi hz0 (by rw[hz1];decide) (by rw[hz1];decide) ?_ (h _ _ (Bw W _) (Bv _ _));rw[hz1];simp only[List.map_toArray,List.map_cons,List.map_nil,hx]
 kernel_rfl
theorem Uq(hgd:o.guard=none)(s x:Operand)(ho:o.op=.call {callee:=.builtin .append,args:=#[s,x],argTypes:=#[92,92]})
  (base g r7:Nat)(v:Value)(xs:List CoreM)(hs:a.eval s=v)(hr:EL W base v xs)(hx:a.eval x=.slice (some ⟨g,0,none⟩) 1 1)
  (hy:W.heap[g]?=some (.cells #[.int .i64 0,.int .i64 0,.int .i64 0,.int .i64 0,.int .i64 0,.int .i64 0,.int .i64 0,.int .i64 (r7:Int),.int .i64 0] 155 (0,0)))(hl:xs.length≤1000000)(hb:base≤W.heap.size)
  (h:∀ v' W1,EL W1 base v' (xs++[⟨[0,0,0,0,0,0,0,r7],0⟩])→W.grownBy W1 v.ownBlock→K (a.put o.dst v') W1) :
  if Region.wanted o (yielded ops a.tmps)=true then Oper.wp Tryz.prog o a W K Q else E:=by
 obtain⟨i9,hi,hz0,hz1,hz2⟩:=info_parts MR;refine Gh hgd s x 92 ho base 155 i9 (.agg Ld) 9 72 Tryz.underlying92 hi hz0 hz1 hz2 rfl (by decide) v xs.length (Cx xs) hs hr g _ (0,0) hx hy rfl ?_ hl (by decide) hb ?_
 ·intro u hu;simp at hu;rcases hu with rfl |rfl |rfl |rfl |rfl |rfl |rfl |rfl |rfl<;>rfl
 ·intro v' W1 h1 h2 h4;refine h v' W1 ?_ h2;unfold EL;rw[GY,List.length_append];exact h1
end
structure SI (w W:World) (px:Nat) (vl vc vw vr:Value) (pl:Option Addr) (pg:Pg) (cells:List (Nat×Nat)) (words:List Nat) (AP:List CoreM):Prop where
 b:Below w.heap.size w W
 Ms:w.heap.size≤px
 bx:W.heap[px]?=some (.cells #[vl,.int .i64 pg.lock,.int .i64 pg.unlock,vc,vw,.pointer pl,vr,.int .i64 0] 94 (0,0))
 cells:Dn W w.heap.size vc cells
 words:E6 W w.heap.size vw words
 AP:EL W w.heap.size vr AP
theorem SI.hz{w W:World}{px:Nat}{vl vc vw vr:Value}{pl:Option Addr}{pg:Pg}{cells:List (Nat×Nat)}{words:List Nat}{AP:List CoreM}(h:SI w W px vl vc vw vr pl pg cells words AP):w.heap.size≤W.heap.size:=h.b.size
theorem SI.keep{w W W1:World}{px:Nat}{vl vc vw vr:Value}{pl:Option Addr}{pg:Pg}{cells:List (Nat×Nat)}{words:List Nat}{AP:List CoreM}(h:SI w W px vl vc vw vr pl pg cells words AP)(hb:Below W.heap.size W W1):SI w W1 px vl vc vw vr pl pg cells words AP :=
 ⟨h.b.trans (hb.mono h.hz),h.Ms,Bk hb h.bx,Om h.cells (fun k hk=>hb.block k (Ol h.cells k hk)),Om h.words (fun k hk=>hb.block k (Ol h.words k hk)),Om h.AP (fun k hk=>hb.block k (Ol h.AP k hk))⟩
theorem SI.Sz{w W W1:World}{px:Nat}{vl vc vw vr v:Value}{pl:Option Addr}{pg:Pg}{cells:List (Nat×Nat)}{words words':List Nat}{AP:List CoreM}(h:SI w W px vl vc vw vr pl pg cells words AP)(hr:E6 W1 w.heap.size v words')(hg:W.grownBy W1 vw.ownBlock) :
  SI w (W1.setCell ⟨px,4,none⟩ v) px vl vc v vr pl pg cells words' AP:=by
 have hb:=h.b.grown hg h.hz (fun k hk=>Ob h.words k hk);have hx:=Bg h.bx hg (Oa h.words h.bx (by decide));have h1:Dn W1 w.heap.size vc cells:=Cl h.cells h.words (by decide) hg;have h2:EL W1 w.heap.size vr AP:=Cl h.AP h.words (by decide) hg;exact⟨hb.setCell (p:=⟨px,4,none⟩) h.Ms v,h.Ms,Bs hx 4 v,Rs h1 hx (by decide) 4 v,Rs hr hx (by decide) 4 v,Rs h2 hx (by decide) 4 v⟩
theorem SI.Ny{w W W1:World}{px:Nat}{vl vc vw vr v:Value}{pl:Option Addr}{pg:Pg}{cells:List (Nat×Nat)}{words:List Nat}{AP cores':List CoreM}(h:SI w W px vl vc vw vr pl pg cells words AP)(hr:EL W1 w.heap.size v cores')(hg:W.grownBy W1 vr.ownBlock) :
  SI w (W1.setCell ⟨px,6,none⟩ v) px vl vc vw v pl pg cells words cores':=by
 have hb:=h.b.grown hg h.hz (fun k hk=>Ob h.AP k hk);have hx:=Bg h.bx hg (Oa h.AP h.bx (by decide));have h1:Dn W1 w.heap.size vc cells:=Cl h.cells h.AP (by decide) hg;have h2:E6 W1 w.heap.size vw words:=Cl h.words h.AP (by decide) hg;exact⟨hb.setCell (p:=⟨px,6,none⟩) h.Ms v,h.Ms,Bs hx 6 v,Rs h1 hx (by decide) 6 v,Rs h2 hx (by decide) 6 v,Rs hr hx (by decide) 6 v⟩
theorem OX(W:World)(vl vs vi vr:Value)(pg:Pg)(ss is rs:List Nat)(n:Nat)(hl:Cg W vl pg.l.length (By pg.l))(hs:Cg W vs ss.length (ss.map fun s:Nat=>Value.int .i64 (s:Int)))
  (hi:Cg W vi is.length (is.map fun v:Nat=>Value.int .u32 v))(hr:Cg W vr rs.length (rs.map fun v:Nat=>Value.int .u32 v))(h8:ss.length≤8)(hle:∀ s∈ss,s≤4096)(DD:ss.sum≤8192)
  (h1:1≤n)(h2:n≤64)(OM:0<is.length)(hi1:is.length≤100000)(hr1:rs.length≤1000)(R3:∀ v∈is,v<4294967296)(Uj:∀ v∈rs,v<4294967296) :
  Calls Tryz.prog 71 #[.agg #[vl,.int .i64 pg.lock,.int .i64 pg.unlock,vs,vi,.int .i64 0,vr],.int .i64 (n:Int)] W fun e W'=>∃ px vc vw vo pl,e=.returned (.pointer (some ⟨px,0,none⟩))∧Dp W W' px vl vc vw vo pl (AG.new pg ss is n 0 rs):=by
 have hb0:=Bw W (.cells #[vl,.int .i64 pg.lock,.int .i64 pg.unlock,vs,vi,.int .i64 0,vr] 29);have hC:=Az (JR _ vs ss (hs.keep hb0) h8 hle DD);have hN:=Bv W (.cells #[vl,.int .i64 pg.lock,.int .i64 pg.unlock,vs,vi,.int .i64 0,vr] 29);have hP:=Az (fun W=>OY W n h1 h2);obtain⟨gi,ci,rfl,hic⟩:=hi.cells OM;obtain⟨Ar,cr,rfl⟩:=hr.slice;obtain⟨As,cs,rfl⟩:=hs.slice;obtain⟨Al,cl,rfl⟩:=hl.slice;have hsz0:W.heap.size<(W.alloc (.cells #[.slice Al pg.l.length cl,.int .i64 pg.lock,.int .i64 pg.unlock,.slice As ss.length cs,.slice (some ⟨gi,0,none⟩) is.length ci,.int .i64 0,.slice Ar rs.length cr] 29)).heap.size:=by simp
 obtain⟨W1,hW1⟩:∃ X,W.alloc (.cells #[.slice Al pg.l.length cl,.int .i64 pg.lock,.int .i64 pg.unlock,.slice As ss.length cs,.slice (some ⟨gi,0,none⟩) is.length ci,.int .i64 0,.slice Ar rs.length cr] 29)=X:=⟨_,rfl⟩
 rw[hW1]at hb0 hC hN hsz0;obtain⟨fin,hfin⟩:∃ x,AG.new pg ss is n 0 rs=x:=⟨_,rfl⟩
 obtain⟨cells,hcells⟩:∃ x,AL ss=x:=⟨_,rfl⟩
 obtain⟨ml,hml⟩:∃ x,pg.l.length=x:=⟨_,rfl⟩
 obtain⟨ms,hms⟩:∃ x,ss.length=x:=⟨_,rfl⟩
 obtain⟨mi,hmi⟩:∃ x,is.length=x:=⟨_,rfl⟩
 obtain⟨mr,hmr⟩:∃ x,rs.length=x:=⟨_,rfl⟩
 rw[hfin,hml,hms,hmi,hmr];rw[hml,hms,hmi,hmr]at hW1 hN;rw[hms,hcells]at hC;rw[hmi]at OM hi1;rw[hmr]at hr1;replace hl:=Az hl;replace hr:=Az hr;replace hic:=Az hic;replace hb0:=Az hb0;replace hfin:=Az hfin;replace hml:=Az hml;replace hmi:=Az hmi;replace hmr:=Az hmr;replace hcells:=Az hcells;have n3:W1.cell? ⟨W.heap.size,3,none⟩=some (.slice As ms cs):=(Bc hN 3).trans rfl;replace hN:=Az hN;replace R3:=Az R3;replace Uj:=Az Uj;clear hs hi h8 hle DD hms;go_enter Tryz.func71,Tryz.ntmps71;go_wp2_with fail
 try rw[hW1]
 clear hW1;refine hC.out.mono ?_;rintro e w2 ⟨vc,rfl,hcl,hb2⟩;replace hN:=Az (Bk hb2 hN.out);obtain⟨Ac,nc,cc,rfl⟩:=AB hcl;replace hcl:Dn w2 W.heap.size _ cells:=Gi hcl (by omega);replace hb0:=Az (hb0.out.trans (hb2.mono (by omega)));replace hcl:=Az hcl;clear hC hb2 n3;go_upto_region 2 with fail
 have hS5:(fun W'=>W'.cell? ⟨W.heap.size,0,none⟩=some (.slice Al ml cl)∧W'.cell? ⟨W.heap.size,1,none⟩=some (.int .i64 pg.lock)∧W'.cell? ⟨W.heap.size,2,none⟩=some (.int .i64 pg.unlock)∧W'.cell? ⟨W.heap.size,5,none⟩=some (.int .i64 0)) w2.drew:=⟨(Bc (Be hN.out) 0).trans rfl,(Bc (Be hN.out) 1).trans rfl,(Bc (Be hN.out) 2).trans rfl,(Bc (Be hN.out) 5).trans rfl⟩
 refine Aw [] (S:=fun W'=>W'.cell? ⟨W.heap.size,0,none⟩=some (.slice Al ml cl)∧W'.cell? ⟨W.heap.size,1,none⟩=some (.int .i64 pg.lock)∧W'.cell? ⟨W.heap.size,2,none⟩=some (.int .i64 pg.unlock)∧W'.cell? ⟨W.heap.size,5,none⟩=some (.int .i64 0)) (by kernel_rfl) hS5 (fun hS0=>?_);clear hS5;try simp only[Act.put,Sa,Sb,Sc]
 refine tY 0 (fun _=>hS0) ?_;refine tL 1 (hS0) ?_;refine tY 2 (fun _=>hS0) ?_;refine tY 3 (fun _=>hS0) ?_;refine tY 4 (fun _=>hS0) ?_;refine tL 5 (hS0) ?_;refine Ab (rs:=[6]) (by kernel_rfl) (by simp) ?_;refine Aa.cons (An rfl) (fun K hK=>?_) Aa.nil;go_simp
 go_at_call 101
 refine(hP.out _).mono ?_;rintro e w3 ⟨gp,rfl,hb3⟩;have hbd:=(Bd (Below.refl _ w2)).trans hb3;replace hS0:w3.cell? ⟨W.heap.size,0,none⟩=some (.slice Al ml cl)∧w3.cell? ⟨W.heap.size,1,none⟩=some (.int .i64 pg.lock)∧w3.cell? ⟨W.heap.size,2,none⟩=some (.int .i64 pg.unlock)∧w3.cell? ⟨W.heap.size,5,none⟩=some (.int .i64 0):=⟨Ck hb3 hS0.1,Ck hb3 hS0.2.1,Ck hb3 hS0.2.2.1,Ck hb3 hS0.2.2.2⟩
 replace hN:=Az (Bk hbd hN.out);replace hcl:=Az (show Dn w3 W.heap.size _ cells from Om hcl.out (fun k hk=>hbd.block k (Ol hcl.out k hk)));replace hb0:=Az (hb0.out.trans (hbd.mono hb0.out.size));clear hP hb3 hbd;go_wp2_with fail
 refine hK.out _ _ (fun _=>hS0) (fun _=>?_);clear hK;try simp only[Act.put,Sa,Sb,Sc]
 refine tY 7 (fun _=>hS0) ?_;refine Ab (rs:=[8]) (by kernel_rfl) (by simp) ?_;refine Aa.cons (An rfl) (fun K hK=>?_) Aa.nil;have hbx:=Bw w3 (.cells #[.slice Al ml cl,.int .i64 pg.lock,.int .i64 pg.unlock,.slice Ac nc cc,.slice none 0 0,.pointer (some ⟨gp,0,none⟩),.slice none 0 0,.int .i64 0] 94);have hI:SI W (w3.alloc (.cells #[.slice Al ml cl,.int .i64 pg.lock,.int .i64 pg.unlock,.slice Ac nc cc,.slice none 0 0,.pointer (some ⟨gp,0,none⟩),.slice none 0 0,.int .i64 0] 94)) w3.heap.size (.slice Al ml cl) (.slice Ac nc cc) (.slice none 0 0) (.slice none 0 0) (some ⟨gp,0,none⟩) pg cells [] [] :=
  ⟨hb0.out.trans (hbx.mono hb0.out.size),hb0.out.size,Bv _ _,Om hcl.out (fun k hk=>hbx.block k (Ol hcl.out k hk)),⟨rfl,.inl ⟨rfl,rfl⟩⟩,⟨rfl,.inl ⟨rfl,rfl⟩⟩⟩
 replace hI:=Az hI;replace hN:=Az (Bk hbx hN.out);have hS1:(w3.alloc (.cells #[.slice Al ml cl,.int .i64 pg.lock,.int .i64 pg.unlock,.slice Ac nc cc,.slice none 0 0,.pointer (some ⟨gp,0,none⟩),.slice none 0 0,.int .i64 0] 94)).cell? ⟨W.heap.size,0,none⟩=some (.slice Al ml cl)∧(w3.alloc (.cells #[.slice Al ml cl,.int .i64 pg.lock,.int .i64 pg.unlock,.slice Ac nc cc,.slice none 0 0,.pointer (some ⟨gp,0,none⟩),.slice none 0 0,.int .i64 0] 94)).cell? ⟨W.heap.size,1,none⟩=some (.int .i64 pg.lock)∧(w3.alloc (.cells #[.slice Al ml cl,.int .i64 pg.lock,.int .i64 pg.unlock,.slice Ac nc cc,.slice none 0 0,.pointer (some ⟨gp,0,none⟩),.slice none 0 0,.int .i64 0] 94)).cell? ⟨W.heap.size,2,none⟩=some (.int .i64 pg.unlock)∧(w3.alloc (.cells #[.slice Al ml cl,.int .i64 pg.lock,.int .i64 pg.unlock,.slice Ac nc cc,.slice none 0 0,.pointer (some ⟨gp,0,none⟩),.slice none 0 0,.int .i64 0] 94)).cell? ⟨W.heap.size,5,none⟩=some (.int .i64 0):=⟨Ck hbx hS0.1,Ck hbx hS0.2.1,Ck hbx hS0.2.2.1,Ck hbx hS0.2.2.2⟩
 replace hS1:=Az hS1;obtain⟨w4,hw4⟩:∃ X,w3.alloc (.cells #[.slice Al ml cl,.int .i64 pg.lock,.int .i64 pg.unlock,.slice Ac nc cc,.slice none 0 0,.pointer (some ⟨gp,0,none⟩),.slice none 0 0,.int .i64 0] 94)=X:=⟨_,rfl⟩
 rw[hw4]at hI hN hS1;obtain⟨px,Ms⟩:∃ x,w3.heap.size=x:=⟨_,rfl⟩
 rw[Ms]at hI;clear hbx hb0 hcl hS0;go_simp
 go_wp2_with fail
 try rw[hw4]
 try rw[Ms]
 refine hK.out _ _ (fun _=>hS1.out) (fun _=>?_);clear hK hw4 Ms;try simp only[Act.put,Sa,Sb,Sc]
 refine tY 9 (fun _=>hS1.out) ?_;refine A4 (by kernel_rfl) ?_ _;clear hS1;go_upto_region 3 with fail
 have hI5:=hI.out.keep (Bd (Below.refl _ w4));have hS5:(fun W'=>W'.cell? ⟨px,4,none⟩=some (.slice none 0 0)∧W'.cell? ⟨W.heap.size,4,none⟩=some (.slice (some ⟨gi,0,none⟩) mi ci)) w4.drew:=⟨(Bc hI5.bx 4).trans rfl,(Bc (Be hN.out) 4).trans rfl⟩
 replace hI:=Az hI5;replace hN:=Az (Be hN.out);clear hI5;refine Aw [10] (S:=fun W'=>W'.cell? ⟨px,4,none⟩=some (.slice none 0 0)∧W'.cell? ⟨W.heap.size,4,none⟩=some (.slice (some ⟨gi,0,none⟩) mi ci)) (by kernel_rfl) hS5 (fun hS0=>?_);clear hS5;generalize w4.drew=w4 at *;try simp only[Act.put,Sa,Sb,Sc]
 refine tY 0 (fun _=>hS0) ?_;refine tY 1 (fun _=>hS0) ?_;refine tY 2 (fun _=>hS0) ?_;refine tY 3 (fun _=>hS0) ?_;refine tL 4 (hS0) ?_;refine tY 5 (fun _=>hS0) ?_;refine tL 6 (hS0) ?_;refine Ab (rs:=[7]) (by kernel_rfl) (by simp) ?_;refine Aa.cons (An rfl) (fun K hK=>?_) Aa.nil;refine Uo rfl (.tmp 30) (.tmp 32) rfl W.heap.size gi ci _ [] is rfl hI.out.words (by rw[hmi.out];rfl) (fun j u hj=>Ck hI.out.b (hic.out j u hj)) (by simp;rw[hmi.out];omega) hI.out.hz (fun v5 w5 hr5 hg5=>?_);have hx5:=Bg hI.out.bx hg5 (Oa hI.out.words hI.out.bx (by decide));have hN5:=Bg hN.out hg5 (Oa hI.out.words hN.out (by decide));have hI6:=hI.out.Sz (v:=v5) hr5 hg5;obtain⟨A5,n5,c5,rfl⟩:=AB hr5;have f5:=Bf hx5 4;have e5:w5.cell? ⟨px,4,none⟩=some (.slice none 0 0):=(Bc hx5 4).trans rfl;have z5:=Bl hx5;replace hS0:(fun W'=>W'.cell? ⟨px,4,none⟩=some (.slice none 0 0)∧W'.cell? ⟨W.heap.size,4,none⟩=some (.slice (some ⟨gi,0,none⟩) mi ci)) w5:=⟨e5,(Bc hN5 4).trans rfl⟩
 have hne:W.heap.size≠px:=CU hN5 hx5 (by decide);have hN6:=Az (Ba (p:=⟨px,4,none⟩) hN5 hne (.slice A5 n5 c5));replace hI6:=Az hI6;refine hK.out _ _ (fun _=>hS0) (fun _=>?_);clear hK hr5 hg5 hx5 hN5 hI hN hic;try simp only[Act.put,Sa,Sb,Sc]
 refine tY 8 (fun _=>hS0) ?_;refine tY 9 (fun _=>hS0) ?_;clear hS0;obtain⟨w6,hw6⟩:∃ X,w5.setCell ⟨px,4,none⟩ (.slice A5 n5 c5)=X:=⟨_,rfl⟩
 rw[hw6]at hI6 hN6;refine Ab (rs:=[10]) (by kernel_rfl) (by simp) ?_;refine Aa.cons (An rfl) (fun K hK=>?_) Aa.nil;go_simp
 go_wp2_with fail
 refine hK.out _ _ (fun h=>by cases h) (fun _=>?_);try rw[hw6]
 clear hK hw6 f5 e5 z5 hne;try simp only[Act.put,Sa,Sb,Sc]
 refine A4 (by kernel_rfl) ?_ _;have n6:w6.cell? ⟨W.heap.size,6,none⟩=some (.slice Ar mr cr):=(Bc hN6.out 6).trans rfl;clear hN6;go_wp2_with fail
 go_loopw [39] (fun v39 wr=>∃ (k:Nat) (vo:Value),v39=.int .i64 (k:Int)∧k≤mr∧Af (SI W wr px (.slice Al ml cl) (.slice Ac nc cc) (.slice A5 n5 c5) vo (some ⟨gp,0,none⟩) pg cells ([]++is) ((rs.take k).map fun v=>⟨[0,0,0,0,0,0,0,v],0⟩))) (fun v39 _=>mr-(intOf v39).toNat)
 case atStart=>exact⟨0,_,rfl,Nat.zero_le _,hI6⟩
 case round =>
  obtain⟨k,vo,rfl,hk,hI⟩:=hrel;clear hI6 n6;by_cases hlt:k<mr
  ·have hkl:k<rs.length:=by rw[hmr.out];exact hlt
   have hrr:=hr.out.keep hI.out.b;rw[hmr.out]at hrr;obtain⟨gr,cr',hvr,hrc⟩:=hrr.cells (by omega);cases hvr;have rk:=hrc k (.int .u32 ((rs.getD k 0:Nat):Int)) (by simp[hkl,List.getD_eq_getElem?_getD]);have hsn:rs.take (k+1)=rs.take k++[rs.getD k 0]:=by
    rw[List.take_succ_eq_append_getElem hkl,List.getD_eq_getElem?_getD,List.getElem?_eq_getElem hkl];rfl
   have hv:rs.getD k 0<4294967296:=Uj.out _ (by rw[List.getD_eq_getElem?_getD,List.getElem?_eq_getElem hkl];exact List.getElem_mem _);generalize rs.getD k 0=v at rk hsn hv;have k0:(0:Int)≤(k:Int):=by omega
   have k1:(k:Int)<(mr:Int):=by omega
   have kw:IntKind.i64.wrap ((k:Int)+1)=(k:Int)+1:=by rw[IntKind.wrap_i64];omega
   have vw:IntKind.i64.wrap (v:Int)=(v:Int):=by rw[IntKind.wrap_i64];omega
   have hbn:=Bw wr (.cells #[.int .i64 0,.int .i64 0,.int .i64 0,.int .i64 0,.int .i64 0,.int .i64 0,.int .i64 0,.int .i64 (v:Int),.int .i64 0] 155);have hI2:=Az (hI.out.keep hbn);have hnb:=Az (Bv wr (.cells #[.int .i64 0,.int .i64 0,.int .i64 0,.int .i64 0,.int .i64 0,.int .i64 0,.int .i64 0,.int .i64 (v:Int),.int .i64 0] 155));replace hsn:=Az hsn;clear hrr hrc hbn hI hv;go_upto_region 9 with fail
   obtain⟨gx,hgx⟩:∃ x,wr.heap.size=x:=⟨_,rfl⟩
   rw[hgx]at hnb;try rw[hgx]
   obtain⟨w7,hw7⟩:∃ X,wr.alloc (.cells #[.int .i64 0,.int .i64 0,.int .i64 0,.int .i64 0,.int .i64 0,.int .i64 0,.int .i64 0,.int .i64 (v:Int),.int .i64 0] 155)=X:=⟨_,rfl⟩
   rw[hw7]at hI2 hnb;try rw[hw7]
   clear hw7 hgx rk;have hI3:=hI2.out.keep (Bd (Below.refl _ w7));have hS5:(fun W'=>W'.cell? ⟨px,6,none⟩=some vo∧W'.cell? ⟨gx,0,none⟩=some (.int .i64 0)∧W'.cell? ⟨gx,1,none⟩=some (.int .i64 0)∧W'.cell? ⟨gx,2,none⟩=some (.int .i64 0)∧W'.cell? ⟨gx,3,none⟩=some (.int .i64 0)∧W'.cell? ⟨gx,4,none⟩=some (.int .i64 0)∧W'.cell? ⟨gx,5,none⟩=some (.int .i64 0)∧W'.cell? ⟨gx,6,none⟩=some (.int .i64 0)∧W'.cell? ⟨gx,7,none⟩=some (.int .i64 (v:Int))∧W'.cell? ⟨gx,8,none⟩=some (.int .i64 0)) w7.drew:=⟨(Bc hI3.bx 6).trans rfl,(Bc (Be hnb.out) 0).trans rfl,(Bc (Be hnb.out) 1).trans rfl,(Bc (Be hnb.out) 2).trans rfl,(Bc (Be hnb.out) 3).trans rfl,(Bc (Be hnb.out) 4).trans rfl,(Bc (Be hnb.out) 5).trans rfl,(Bc (Be hnb.out) 6).trans rfl,(Bc (Be hnb.out) 7).trans rfl,(Bc (Be hnb.out) 8).trans rfl⟩
   refine Aw [7,10] (S:=fun W'=>W'.cell? ⟨px,6,none⟩=some vo∧W'.cell? ⟨gx,0,none⟩=some (.int .i64 0)∧W'.cell? ⟨gx,1,none⟩=some (.int .i64 0)∧W'.cell? ⟨gx,2,none⟩=some (.int .i64 0)∧W'.cell? ⟨gx,3,none⟩=some (.int .i64 0)∧W'.cell? ⟨gx,4,none⟩=some (.int .i64 0)∧W'.cell? ⟨gx,5,none⟩=some (.int .i64 0)∧W'.cell? ⟨gx,6,none⟩=some (.int .i64 0)∧W'.cell? ⟨gx,7,none⟩=some (.int .i64 (v:Int))∧W'.cell? ⟨gx,8,none⟩=some (.int .i64 0)) (by kernel_rfl) hS5 (fun hS0=>?_);replace hI2:=Az hI3;clear hS5 hI3 hnb;generalize w7.drew=w7 at *;try simp only[Act.put,Sa,Sb,Sc]
   refine tY 0 (fun _=>hS0) ?_;refine tY 1 (fun _=>hS0) ?_;refine tY 2 (fun _=>hS0) ?_;refine tY 3 (fun _=>hS0) ?_;refine tL 4 (hS0) ?_;refine tL 5 (hS0) ?_;refine Ab (rs:=[6]) (by kernel_rfl) (by simp) ?_;refine Aa.cons (An rfl) (fun K hK=>?_) Aa.nil;refine Up rfl (.tmp 52) rfl v rfl (fun g8 w8 hb8 hy8=>?_);replace hI2:=Az (hI2.out.keep hb8);replace hS0:(fun W'=>W'.cell? ⟨px,6,none⟩=some vo∧W'.cell? ⟨gx,0,none⟩=some (.int .i64 0)∧W'.cell? ⟨gx,1,none⟩=some (.int .i64 0)∧W'.cell? ⟨gx,2,none⟩=some (.int .i64 0)∧W'.cell? ⟨gx,3,none⟩=some (.int .i64 0)∧W'.cell? ⟨gx,4,none⟩=some (.int .i64 0)∧W'.cell? ⟨gx,5,none⟩=some (.int .i64 0)∧W'.cell? ⟨gx,6,none⟩=some (.int .i64 0)∧W'.cell? ⟨gx,7,none⟩=some (.int .i64 (v:Int))∧W'.cell? ⟨gx,8,none⟩=some (.int .i64 0)) w8:=⟨Ck hb8 hS0.1,Ck hb8 hS0.2.1,Ck hb8 hS0.2.2.1,Ck hb8 hS0.2.2.2.1,Ck hb8 hS0.2.2.2.2.1,Ck hb8 hS0.2.2.2.2.2.1,Ck hb8 hS0.2.2.2.2.2.2.1,Ck hb8 hS0.2.2.2.2.2.2.2.1,Ck hb8 hS0.2.2.2.2.2.2.2.2.1,Ck hb8 hS0.2.2.2.2.2.2.2.2.2⟩
   refine hK.out _ _ (fun _=>hS0) (fun _=>?_);clear hK hb8;try simp only[Act.put,Sa,Sb,Sc]
   refine Ab (rs:=[7]) (by kernel_rfl) (by simp) ?_;refine Aa.cons (An rfl) (fun K hK=>?_) Aa.nil;refine Uq rfl (.tmp 51) (.tmp 53) rfl W.heap.size g8 v _ _ rfl hI2.out.AP rfl hy8 (by rw[List.length_map,List.length_take];omega) hI2.out.hz (fun v9 w9 hr9 hg9=>?_);have hx9:=Bg hI2.out.bx hg9 (Oa hI2.out.AP hI2.out.bx (by decide));have hI9:=hI2.out.Ny (v:=v9) hr9 hg9;rw[show(rs.take k).map (fun v=>(⟨[0,0,0,0,0,0,0,v],0⟩:CoreM))++[⟨[0,0,0,0,0,0,0,v],0⟩]=(rs.take (k+1)).map (fun v=>(⟨[0,0,0,0,0,0,0,v],0⟩:CoreM)) by rw[hsn.out,List.map_append];rfl]at hI9;obtain⟨A9,n9,c9,rfl⟩:=AB hr9;have f9:=Bf hx9 6;have e9:w9.cell? ⟨px,6,none⟩=some vo:=(Bc hx9 6).trans rfl;have z9:=Bl hx9;replace hI9:=Az hI9;refine hK.out _ _ (fun h=>by cases h) (fun _=>?_);clear hK hS0 hr9 hg9 hx9 hI2 hy8 hsn;try simp only[Act.put,Sa,Sb,Sc]
   refine tY 8 (fun h=>by cases h) ?_;refine tY 9 (fun h=>by cases h) ?_;obtain⟨w10,hw10⟩:∃ X,w9.setCell ⟨px,6,none⟩ (.slice A9 n9 c9)=X:=⟨_,rfl⟩
   rw[hw10]at hI9;refine Ab (rs:=[10]) (by kernel_rfl) (by simp) ?_;refine Aa.cons (An rfl) (fun K hK=>?_) Aa.nil;go_simp
   go_wp2_with fail
   refine hK.out _ _ (fun h=>by cases h) (fun _=>?_);try rw[hw10]
   clear hK hw10 f9 e9 z9;try simp only[Act.put,Sa,Sb,Sc]
   refine A4 (by kernel_rfl) ?_ _;go_wp2;go_roundw
   case rel=>exact⟨k+1,_,by go_num,hlt,hI9⟩
   case measure=>simp[intOf];omega
  ·obtain rfl:k=mr:=by omega
   have n1:¬(k:Int)<(k:Int):=by omega
   have hE:Dp W wr px (.slice Al ml cl) (.slice Ac nc cc) (.slice A5 n5 c5) vo (some ⟨gp,0,none⟩) fin:=by
    have hI':=hI.out;rw[←hmr.out,List.take_length,List.nil_append]at hI';have hl':=hl.out;rw[←hfin.out];rw[←hcells.out]at hI';refine⟨hI'.b,hI'.Ms,⟨0,hI'.bx⟩,?_,hI'.cells,hI'.words,hI'.AP,fun c hc=>?_,fun v hv=>R3.out v hv⟩
    ·rw[←hml.out];exact hl'
    ·obtain⟨v,hv,rfl⟩:=List.mem_map.1 hc;have:=Uj.out v hv;refine⟨rfl,fun j=>?_⟩;rcases j with _ |_ |_ |_ |_ |_ |_ |_ |j
     all_goals first |exact this |exact(by decide:(0:Nat)<4294967296)
   replace hE:=Az hE;clear hI;go_wp2;go_ret;first |exact⟨_,rfl,_,_,_,_,hE.out⟩ |exact⟨_,_,_,_,_,rfl,hE.out⟩ |exact⟨_,_,_,rfl,_,_,hE.out⟩ |exact⟨_,_,_,_,hE.out⟩ |exact⟨_,_,_,_,_,hE.out⟩ |exact⟨_,_,_,hE.out⟩
theorem Kn:∀ (a rest:List UInt8),(10:UInt8)∉a→Bm (a++10::rest)=(a++[10])::Bm rest
 |[],rest,_=>by rw[List.nil_append,Bm,if_pos rfl];rfl
 |c::a,rest,h=>by
  have hc:¬c=10:=fun e=>h (by rw[e];exact List.mem_cons_self ..)
  rw[List.cons_append,Bm,if_neg hc,Kn a rest (fun hm=>h (List.mem_cons_of_mem _ hm))];rfl
theorem Md:∀ (a:List UInt8),(10:UInt8)∉a→a≠[]→Bm a=[a]
 |[],_,h=>absurd rfl h
 |[c],h,_=>by
  have hc:¬c=10:=fun e=>h (by rw[e];exact List.mem_cons_self ..)
  rw[Bm,if_neg hc];rfl
 |c::d::a,h,_=>by
  have hc:¬c=10:=fun e=>h (by rw[e];exact List.mem_cons_self ..)
  rw[Bm,if_neg hc,Md (d::a) (fun hm=>h (List.mem_cons_of_mem _ hm)) (by simp)]
theorem getD_eq{α:Type}{l:List α}{i:Nat}(h:i<l.length)(d:α):l.getD i d=l[i]:=by simp[List.getD_eq_getElem?_getD,List.getElem?_eq_getElem h]
theorem TA{t:List UInt8}{f i:Nat}{n:Int}{x:Src}(hi:i<t.length)(hf:f≤i)(h10:t.getD i 0=10)(hno:(10:UInt8)∉(t.drop f).take (i-f)) :
  FF (Bm (t.drop f)) n x=if (El x ((t.drop f).take (i-f)) (n+1)).2=0 then FF (Bm (t.drop (i+1))) (n+1) (El x ((t.drop f).take (i-f)) (n+1)).1 else (x,n+1,(El x ((t.drop f).take (i-f)) (n+1)).2):=by
 have e:t.drop f=(t.drop f).take (i-f)++10::t.drop (i+1):=by
  conv=>lhs;rw[←List.take_append_drop (i-f) (t.drop f)]
  rw[List.drop_drop,show f+(i-f)=i by omega,List.drop_eq_getElem_cons hi,←getD_eq hi 0,h10]
 have e2:Bm (t.drop f)=((t.drop f).take (i-f)++[10])::Bm (t.drop (i+1)):=by
  conv=>lhs;rw[e]
  rw[Kn _ _ hno]
 rw[e2,FF,if_neg (by simp),List.dropLast_concat]
theorem Vt{t:List UInt8}{f:Nat}{n:Int}{x:Src}(hno:(10:UInt8)∉t.drop f):FF (Bm (t.drop f)) n x=if f<t.length then (x,n+1,8) else (x,n,0):=by
 by_cases h:f<t.length
 ·have hne:t.drop f≠[]:=fun e=>by have:=congrArg List.length e;simp at this;omega
  rw[if_pos h,Md _ hno hne,FF,if_pos];intro e;exact hno (List.mem_of_getLast? e)
 ·rw[if_neg h,List.drop_eq_nil_of_le (by omega)];rfl
theorem TB{t:List UInt8}{f i:Nat}(hi:i<t.length)(hf:f≤i)(h10:t.getD i 0≠10)(hno:(10:UInt8)∉(t.drop f).take (i-f)):(10:UInt8)∉(t.drop f).take (i+1-f):=by
 have hd:(t.drop f)[i-f]?=some (t.getD i 0):=by rw[List.getElem?_drop,show f+(i-f)=i by omega,List.getElem?_eq_getElem hi,getD_eq hi]
 rw[show i+1-f=(i-f)+1 by omega,List.take_add_one,hd];intro h;rcases List.mem_append.1 h with h |h
 ·exact hno h
 ·have h':(10:UInt8)=t.getD i 0:=by simpa using h
  exact h10 h'.symm
theorem Qg(s:List UInt8)(h:(DL s).2.2=true):(DL s).2.1.length≤16:=by
 unfold DL at h ⊢;dsimp only at h ⊢;split
 ·rename_i hc
  have:=hc.2.2;simp only[Cp,Bool.and_eq_true,decide_eq_true_eq]at this;exact this.1.1.2
 ·split<;>simp
theorem Vp{x:Src}{m:Nat}(h:I6 x m)(s:List UInt8)(n:Int):I6 (El x s n).1 (m+1):=by
 obtain⟨h1,h2,h3,h4,h5⟩:=h;unfold El;by_cases c1:s.getLast?=some 58∧Cp s.dropLast=true
 ·rw[if_pos c1];by_cases c2:Lq x.labels s.dropLast=true
  ·rw[if_pos c2];exact⟨h1,h2,h3,Nat.le_succ_of_le h4,h5⟩
  ·rw[if_neg c2];exact⟨h1,h2,h3,by simp;omega,h5⟩
 ·rw[if_neg c1];by_cases c3:(DL s).2.2=false
  ·rw[if_pos c3];exact⟨h1,h2,h3,Nat.le_succ_of_le h4,h5⟩
  ·rw[if_neg c3];by_cases c4:64≤x.l.length
   ·rw[if_pos c4];exact⟨h1,h2,h3,Nat.le_succ_of_le h4,h5⟩
   ·rw[if_neg c4];refine⟨by simp[h1],by simp[h2],by simp;omega,Nat.le_succ_of_le h4,fun y hy=>?_⟩;rcases List.mem_append.1 hy with hy |hy
    ·exact h5 y hy
    ·rw[List.mem_singleton.1 hy];exact Qg _ (by simpa using c3)
structure RX (w W:World) (N:Nat) (v0 vl vn vr:Value) (l:List In) (names:List (List UInt8)) (rows:List Int) (labels:List (List UInt8×Nat)):Prop where
 b:Below N w W
 c2:W.heap[N]?=some (.cells #[.slice none 0 0,.int .i64 0,.int .i64 0] 25 (0,0))
 c5:W.heap[N+1]?=some (.cells #[v0,.int .i64 0,.int .i64 0] 25 (0,0))
 q0:BM W N v0 l
 q1:E7 W N vn names
 q2:Bo W N vr rows
 q3:GO W N vl labels
section
variable {w W W1:World} {N:Nat} {v0 vl vn vr u:Value} {l:List In} {names:List (List UInt8)} {rows:List Int} {labels:List (List UInt8×Nat)} {i:In} {z:List UInt8} {n:Int} {p:List UInt8×Nat}
theorem RX.hz(h:RX w W N v0 vl vn vr l names rows labels):N≤W.heap.size:=Nat.le_of_lt (Bl h.c2)
theorem RX.keep(h:RX w W N v0 vl vn vr l names rows labels)(hb:Below W.heap.size W W1):RX w W1 N v0 vl vn vr l names rows labels :=
 ⟨h.b.trans (hb.mono h.hz),Bk hb h.c2,Bk hb h.c5,Om h.q0 (fun k hk=>hb.block k (Ol h.q0 k hk)),Om h.q1 (fun k hk=>hb.block k (Ol h.q1 k hk)),h.q2.keep hb,h.q3.keep hb⟩
theorem RX.a3(h:RX w W N v0 vl vn vr l names rows labels)(hr:GO W1 N u (labels++[p]))(hg:W.grownBy W1 vl.ownBlock):RX w W1 N v0 u vn vr l names rows (labels++[p]) :=
 ⟨h.b.grown hg h.hz (fun k hk=>Ob h.q3 k hk),Bg h.c2 hg (Oa h.q3 h.c2 (by decide)),Bg h.c5 hg (Oa h.q3 h.c5 (by decide)),Cl h.q0 h.q3 (by decide) hg,Cl h.q1 h.q3 (by decide) hg,Cl h.q2 h.q3 (by decide) hg,hr⟩
theorem RX.a1(h:RX w W N v0 vl vn vr l names rows labels)(hr:E7 W1 N u (names++[z]))(hg:W.grownBy W1 vn.ownBlock):RX w W1 N v0 vl u vr l (names++[z]) rows labels :=
 ⟨h.b.grown hg h.hz (fun k hk=>Ob h.q1 k hk),Bg h.c2 hg (Oa h.q1 h.c2 (by decide)),Bg h.c5 hg (Oa h.q1 h.c5 (by decide)),Cl h.q0 h.q1 (by decide) hg,hr,Cl h.q2 h.q1 (by decide) hg,Cl h.q3 h.q1 (by decide) hg⟩
theorem RX.a2(h:RX w W N v0 vl vn vr l names rows labels)(hr:Bo W1 N u (rows++[n]))(hg:W.grownBy W1 vr.ownBlock):RX w W1 N v0 vl vn u l names (rows++[n]) labels :=
 ⟨h.b.grown hg h.hz (fun k hk=>Ob h.q2 k hk),Bg h.c2 hg (Oa h.q2 h.c2 (by decide)),Bg h.c5 hg (Oa h.q2 h.c5 (by decide)),Cl h.q0 h.q2 (by decide) hg,Cl h.q1 h.q2 (by decide) hg,hr,Cl h.q3 h.q2 (by decide) hg⟩
theorem RX.a0(h:RX w W N v0 vl vn vr l names rows labels)(hr:BM W1 N u (l++[i]))(hg:W.grownBy W1 v0.ownBlock):RX w (W1.setCell ⟨N+1,0,none⟩ u) N u vl vn vr (l++[i]) names rows labels:=by
 have hc5:=Bg h.c5 hg (Oa h.q0 h.c5 (by decide));have hc2:=Bg h.c2 hg (Oa h.q0 h.c2 (by decide));exact⟨(h.b.grown hg h.hz (fun k hk=>Ob h.q0 k hk)).setCell (show N≤N+1 by omega) u,Ba hc2 (show N≠N+1 by omega) u,Bs hc5 0 u,Rs hr hc5 (by decide) 0 u,Rs (Cl h.q1 h.q0 (by decide) hg) hc5 (by decide) 0 u,Rs (Cl h.q2 h.q0 (by decide) hg) hc5 (by decide) 0 u,Rs (Cl h.q3 h.q0 (by decide) hg) hc5 (by decide) 0 u⟩
end
theorem RX.start(w:World):RX w ((w.alloc (.cells #[.slice none 0 0,.int .i64 0,.int .i64 0] 25)).alloc (.cells #[.slice none 0 0,.int .i64 0,.int .i64 0] 25)) w.heap.size (.slice none 0 0) (.slice none 0 0) (.slice none 0 0) (.slice none 0 0) [] [] [] [] :=
 ⟨((Below.refl w.heap.size w).alloc (Nl _) _).alloc (by simp) _,AF (Bv w _) _,Dh w _ _,.nil _ _,.nil _ _,.nil _ _,.nil _ _⟩
theorem Dl{W:World}{base n size:Nat}{e:TypeId}{v:Value}{xs:List Value}(h:W.ownsRow base e size v n xs):∃ A c,v=.slice A n c:=by
 rcases h.2 with ⟨rfl,h0⟩ |⟨g,cap,cur,rfl,_⟩
 ·exact⟨none,0,by rw[h0]⟩
 ·exact⟨_,_,rfl⟩
section
variable {w W W1:World} {N:Nat} {v0 vl vn vr u:Value} {l:List In} {names:List (List UInt8)} {rows:List Int} {labels:List (List UInt8×Nat)} {i:In} {s:List UInt8} {n:Int} {p:List UInt8×Nat}
theorem RX.facts(h:RX w W N v0 vl vn vr l names rows labels):W.cell? ⟨N,0,none⟩=some (.slice none 0 0)∧W.cell? ⟨N,1,none⟩=some (.int .i64 0)∧W.cell? ⟨N,2,none⟩=some (.int .i64 0)∧W.frozen? ⟨N,0,none⟩=false∧W.frozen? ⟨N,1,none⟩=false∧W.frozen? ⟨N,2,none⟩=false∧N<W.heap.size :=
 ⟨(Bc h.c2 0).trans rfl,(Bc h.c2 1).trans rfl,(Bc h.c2 2).trans rfl,Bf h.c2 0,Bf h.c2 1,Bf h.c2 2,Bl h.c2⟩
theorem RX.JC(h:RX w W N v0 vl vn vr l names rows labels):W.cell? ⟨N+1,0,none⟩=some v0∧W.cell? ⟨N+1,1,none⟩=some (.int .i64 0)∧W.cell? ⟨N+1,2,none⟩=some (.int .i64 0)∧W.frozen? ⟨N+1,0,none⟩=false∧W.frozen? ⟨N+1,1,none⟩=false∧W.frozen? ⟨N+1,2,none⟩=false∧N+1<W.heap.size :=
 ⟨(Bc h.c5 0).trans rfl,(Bc h.c5 1).trans rfl,(Bc h.c5 2).trans rfl,Bf h.c5 0,Bf h.c5 1,Bf h.c5 2,Bl h.c5⟩
theorem RX.Vq(h:RX w W N v0 vl vn vr l names rows labels)(a b c:Value):∀ W',W'=((W.setCell ⟨N,0,none⟩ a).setCell ⟨N,1,none⟩ b).setCell ⟨N,2,none⟩ c →
  W'.heap[N]?=some (.cells #[a,b,c] 25 (0,0))∧Below N w W':=by
 rintro W' rfl;exact⟨Bs (Bs (Bs h.c2 0 a) 1 b) 2 c,((h.b.setCell (Nl _) _).setCell (Nl _) _).setCell (Nl _) _⟩
end
theorem T9{t:List UInt8}{x:Src}{n e:Int}(h:FF (Bm t) 0 Src.zero=(x,n,e))(he:e≠0):AH t=(Pg.zero,n,e):=by
 unfold AH;rw[h];dsimp only;rw[if_pos he]
theorem Sd(l:List UInt8)(q:Nat)(hq:l.length=q+1)(W:World):(Instr.slice 9 (.string ⟨l.toArray⟩) none (some (.int .i64 (q:Int))) none).run Tryz.prog W=.ok (.string ⟨l.dropLast.toArray⟩) W:=by
 have hz:(⟨l.toArray⟩:ByteArray).size=l.length:=by simp[ByteArray.size]
 rw[run_slice_string_h W 9 ⟨l.toArray⟩ Tryz.underlying9 .i64 (q:Int) (by omega) (by rw[hz];omega),Ea,List.dropLast_eq_take,hq];simp
theorem PG(l:List UInt8)(q:Nat)(hq:l.length=q+1):(⟨l.toArray⟩:ByteArray).extract 0 q=⟨l.dropLast.toArray⟩:=by
 rw[Ea,List.dropLast_eq_take,hq];simp
theorem Xs(l:List UInt8)(q:Nat)(hq:l.length=q+1):l.getLast?=some (l.getD q 0):=by
 rw[List.getLast?_eq_getElem?,hq,List.getElem?_eq_getElem (by omega),getD_eq (by omega)];rfl
section
variable {ops:Array Oper} {o:Oper} {a:Act} {K:Act→World→Prop} {Q:Exit→Act→World→Prop} {E:Prop} {W:World}
theorem Vr(hgd:o.guard=none)(x:Operand)(ho:o.op=.buildSlice 109 1 #[(0,x)])(s:List UInt8)(k:Nat)(hx:a.eval x=.agg #[.string ⟨s.toArray⟩,.int .i64 (k:Int)])
  (h:∀ g W1,Below W.heap.size W W1→W1.heap[g]?=some (.cells #[.string ⟨s.toArray⟩,.int .i64 (k:Int)] 112 (0,0))→K (a.put o.dst (.slice (some ⟨g,0,none⟩) 1 1)) W1) :
  if Region.wanted o (yielded ops a.tmps)=true then Oper.wp Tryz.prog o a W K Q else E:=by
 rw[if_pos (by simp[Region.wanted,hgd])];obtain⟨i9,hi,hz0,hz1,hz2⟩:=info_parts RU;refine wp_buildSlice 109 112 1 _ ho #[.string ⟨s.toArray⟩,.int .i64 (k:Int)] i9 (.agg #[.string ⟨#[]⟩,.int .i64 0]) Tryz.underlying109 hi hz0 (by rw[hz1];decide) (by rw[hz1];decide) ?_ (h _ _ (Bw W _) (Bv _ _));rw[hz1];simp only[List.map_toArray,List.map_cons,List.map_nil,hx]
 kernel_rfl
theorem Vs(hgd:o.guard=none)(s x:Operand)(ho:o.op=.call {callee:=.builtin .append,args:=#[s,x],argTypes:=#[109,109]})
  (base g:Nat)(y:List UInt8×Nat)(v:Value)(xs:List (List UInt8×Nat))(hs:a.eval s=v)(hr:GO W base v xs)(hx:a.eval x=.slice (some ⟨g,0,none⟩) 1 1)
  (hy:W.heap[g]?=some (.cells #[.string ⟨y.1.toArray⟩,.int .i64 (y.2:Int)] 112 (0,0)))(hl:xs.length≤1000000)(hb:base≤W.heap.size)
  (h:∀ v' W1,GO W1 base v' (xs++[y])→W.grownBy W1 v.ownBlock→(v'.ownBlock=v.ownBlock∨v'.ownBlock=some W.heap.size)→K (a.put o.dst v') W1) :
  if Region.wanted o (yielded ops a.tmps)=true then Oper.wp Tryz.prog o a W K Q else E:=by
 obtain⟨i9,hi,hz0,hz1,hz2⟩:=info_parts RU;refine Gh hgd s x 109 ho base 112 i9 (.agg #[.string ⟨#[]⟩,.int .i64 0]) 2 24 Tryz.underlying109 hi hz0 hz1 hz2 rfl (by decide) v xs.length (ER xs) hs hr g #[.string ⟨y.1.toArray⟩,.int .i64 (y.2:Int)] (0,0) hx hy rfl ?_ hl (by decide) hb ?_
 ·simp[Value.oneCell']
 ·intro v' W1 h1 h2 h4;refine h v' W1 ?_ h2 h4;unfold GO;rw[IT,List.length_append];exact h1
end
def Hr(x:Src)(k:Nat)(done:List In):List In ⊕ Int :=
 match Hg x.labels x.l.length (x.l.drop k) (x.names.drop k) (x.rows.drop k) with
 |.inl r=>.inl (done++r)
 |.inr e=>.inr e
theorem Rw(x:Src):Hr x 0 []=Hg x.labels x.l.length x.l x.names x.rows:=by
 unfold Hr;simp only[List.drop_zero,List.nil_append];cases Hg x.labels x.l.length x.l x.names x.rows<;>rfl
theorem TC(x:Src)(k:Nat)(done:List In)(h:x.l.length≤k):Hr x k done=.inl done:=by
 unfold Hr;rw[List.drop_eq_nil_of_le h];simp[Hg]
theorem Rl{x:Src}{k:Nat}{done:List In}(h:k<x.l.length)(h1:x.names.length=x.l.length)(h2:x.rows.length=x.l.length) :
  Hr x k done=if x.names.getD k []=[] then Hr x (k+1) (done++[x.l.getD k In.zero]) else
   if Cy x.labels (x.names.getD k []) x.l.length<0 then .inr (x.rows.getD k 0) else Hr x (k+1) (done++[{x.l.getD k In.zero with q:=Cy x.labels (x.names.getD k []) x.l.length}]):=by
 unfold Hr;rw[Dz x.l k In.zero h,Dz x.names k [] (by omega),Dz x.rows k 0 (by omega)];simp only[Hg];by_cases hs:x.names.getD k []=[]
 ·rw[if_pos hs,if_pos hs];cases Hg x.labels x.l.length (x.l.drop (k+1)) (x.names.drop (k+1)) (x.rows.drop (k+1))<;>simp
 ·rw[if_neg hs,if_neg hs];by_cases hf:Cy x.labels (x.names.getD k []) x.l.length<0
  ·rw[if_pos hf,if_pos hf]
  ·rw[if_neg hf,if_neg hf];cases Hg x.labels x.l.length (x.l.drop (k+1)) (x.names.drop (k+1)) (x.rows.drop (k+1))<;>simp
theorem Xt{t:List UInt8}{x:Src}{n:Int}(h:FF (Bm t) 0 Src.zero=(x,n,0)):AH t=match Hr x 0 []with
  |.inr e=>(Pg.zero,e,10)
  |.inl k=>if Cy x.labels [108,111,99,107] x.l.length<0∨Cy x.labels [117,110,108,111,99,107] x.l.length<0 then (Pg.zero,0,10)
   else (⟨k,Cy x.labels [108,111,99,107] x.l.length,Cy x.labels [117,110,108,111,99,107] x.l.length⟩,0,0):=by
 unfold AH;rw[h,Rw];dsimp only;rw[if_neg (by simp)];cases Hg x.labels x.l.length x.l x.names x.rows<;>rfl
theorem BM.Yl{W:World}{base k n c g:Nat}{xs:List In}(h:BM W base (.slice (some ⟨g,0,none⟩) n c) xs)(hk:k<xs.length)(q:Int) :
  BM (W.setCell ⟨g,k*8+7,none⟩ (.int .i64 q)) base (.slice (some ⟨g,0,none⟩) n c) (xs.set k {xs.getD k In.zero with q:=q}):=by
 obtain⟨h1,h2⟩:=h;rcases h2 with ⟨h0,_⟩ |⟨g',cap,cur,h0,hb,hg,hc,hm,hs,ht⟩
 ·cases h0
 ·cases h0;refine⟨by rw[JN,List.length_set],.inr ⟨g,c,_,by rw[List.length_set],hb,Bs hg (k*8+7) _,by rw[List.length_set];exact hc,hm,by simpa using hs,?_⟩⟩;rw[List.length_set,←GS xs k q hk,←ht];simp[List.take_set]
section
variable {w W W1:World} {N:Nat} {v0 vl vn vr u:Value} {l:List In} {names:List (List UInt8)} {rows:List Int} {labels:List (List UInt8×Nat)} {i:In} {s:List UInt8} {n:Int} {p:List UInt8×Nat}
theorem RX.Sx{g m c k:Nat}(h:RX w W N (.slice (some ⟨g,0,none⟩) m c) vl vn vr l names rows labels)(hk:k<l.length)(q:Int) :
  RX w (W.setCell ⟨g,k*8+7,none⟩ (.int .i64 q)) N (.slice (some ⟨g,0,none⟩) m c) vl vn vr (l.set k {l.getD k In.zero with q:=q}) names rows labels:=by
 obtain⟨cells,hc⟩:=Dy h.q0 g rfl;have hg:N≤g:=Ob h.q0 g rfl;have hn2:N≠g:=fun e=>by have:=h.c2;rw[e,hc]at this;cases this
 have hn5:N+1≠g:=fun e=>by have:=h.c5;rw[e,hc]at this;cases this
 have off:∀ {e:TypeId} {size m:Nat} {v:Value} {xs:List Value},W.ownsRow N e size v m xs→e≠114→(W.setCell ⟨g,k*8+7,none⟩ (.int .i64 q)).ownsRow N e size v m xs:=fun hr hne =>
  Om hr fun j hj=>Below.heap_setCell W ⟨g,k*8+7,none⟩ _ _ (fun e=>Oa hr hc hne (by rw[hj,←show j=g from e]))
 exact⟨h.b.setCell (show N≤g from hg) _,Ba h.c2 (show N≠g from hn2) _,Ba h.c5 (show N+1≠g from hn5) _,h.q0.Yl hk q,off h.q1 (by decide),off h.q2 (by decide),off h.q3 (by decide)⟩
theorem RX.S(h:RX w W N v0 vl vn vr l names rows labels):Af (RX w W N v0 vl vn vr l names rows labels)∧W.cell? ⟨N+1,0,none⟩=some v0:=⟨⟨h⟩,h.JC.1⟩
end
theorem Xu{w W W1:World}{N:Nat}{v0 vl vn vr:Value}{l:List In}{names:List (List UInt8)}{rows:List Int}{labels:List (List UInt8×Nat)}{a b:Addr}{y z:Value}(hb:Below W.heap.size W W1)(h:Af (RX w W N v0 vl vn vr l names rows labels)∧W.cell? a=some y∧W.cell? b=some z) :
 Af (RX w W1 N v0 vl vn vr l names rows labels)∧W1.cell? a=some y∧W1.cell? b=some z:=⟨⟨h.1.out.keep hb⟩,Ck hb h.2.1,Ck hb h.2.2⟩
theorem PI{w W W1:World}{N:Nat}{v0 vl vn vr:Value}{l:List In}{names:List (List UInt8)}{rows:List Int}{labels:List (List UInt8×Nat)}{a:Addr}{y:Value}(hb:Below W.heap.size W W1)(h:Af (RX w W N v0 vl vn vr l names rows labels)∧W.cell? a=some y) :
 Af (RX w W1 N v0 vl vn vr l names rows labels)∧W1.cell? a=some y:=⟨⟨h.1.out.keep hb⟩,Ck hb h.2⟩
theorem RX.lu{w W:World}{N:Nat}{v0 vl vn vr:Value}{l:List In}{names:List (List UInt8)}{rows:List Int}{labels:List (List UInt8×Nat)}(h:RX w W N v0 vl vn vr l names rows labels)(a b:Value):∀ W',W'=(W.setCell ⟨N+1,1,none⟩ a).setCell ⟨N+1,2,none⟩ b →
  Below N w W'∧W'.heap[N]?=some (.cells #[.slice none 0 0,.int .i64 0,.int .i64 0] 25 (0,0))∧W'.heap[N+1]?=some (.cells #[v0,a,b] 25 (0,0))∧BM W' N v0 l:=by
 rintro W' rfl;exact⟨(h.b.setCell (show N≤N+1 by omega) _).setCell (show N≤N+1 by omega) _,Ba (Ba h.c2 (show N≠N+1 by omega) _) (show N≠N+1 by omega) _,Bs (Bs h.c5 1 a) 2 b,Rs (Rs h.q0 h.c5 (by decide) 1 a) (Bs h.c5 1 a) (by decide) 2 b⟩
theorem AaC{W:World}{N g k:Nat}{y:Value}(hn:N≠g)(a b c:Value)(h:W.cell? ⟨g,k,none⟩=some y):(((W.setCell ⟨N,0,none⟩ a).setCell ⟨N,1,none⟩ b).setCell ⟨N,2,none⟩ c).cell? ⟨g,k,none⟩=some y :=
 (World.cell?_setCell_far _ ⟨N,2,none⟩ ⟨g,k,none⟩ c hn).trans ((World.cell?_setCell_far _ ⟨N,1,none⟩ ⟨g,k,none⟩ b hn).trans ((World.cell?_setCell_far W ⟨N,0,none⟩ ⟨g,k,none⟩ a hn).trans h))
theorem Vu{w W:World}{N:Nat}{x y z v0:Value}{l:List In}(hb:Below N w W)(hc:W.heap[N]?=some (.cells #[x,y,z] 25 (0,0)))(hr:BM W N v0 l)(a b c:Value):∀ W',W'=((W.setCell ⟨N,0,none⟩ a).setCell ⟨N,1,none⟩ b).setCell ⟨N,2,none⟩ c →
  W'.heap[N]?=some (.cells #[a,b,c] 25 (0,0))∧BM W' N v0 l∧Below N w W':=by
 rintro W' rfl;exact⟨Bs (Bs (Bs hc 0 a) 1 b) 2 c,Rs (Rs (Rs hr hc (by decide) 0 a) (Bs hc 0 a) (by decide) 1 b) (Bs (Bs hc 0 a) 1 b) (by decide) 2 c,((hb.setCell (Nl _) _).setCell (Nl _) _).setCell (Nl _) _⟩
end
end Go.Proofs.YtjjpiefgdggghaaGreatDoor

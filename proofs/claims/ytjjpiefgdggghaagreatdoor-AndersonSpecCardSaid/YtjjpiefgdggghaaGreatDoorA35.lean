/- Parts: New, Rights, RunCame. -/
import Derived.Test.YtjjpiefgdggghaaGreatDoorA03
import Derived.Test.YtjjpiefgdggghaaGreatDoorA13
import Derived.Test.YtjjpiefgdggghaaGreatDoorA32
import Derived.Test.YtjjpiefgdggghaaGreatDoorA28
import Derived.Test.YtjjpiefgdggghaaGreatDoorA34
set_option linter.unusedVariables false
set_option linter.unusedSimpArgs false
set_option maxRecDepth 100000
set_option maxHeartbeats 40000000
namespace Go.Proofs.YtjjpiefgdggghaaGreatDoor
section
open Go.RowKit Go.Proofs.YtjjpiefgdggghaaGreatDoorW.PrintWords
section
variable {ops:Array Oper} {o:Oper} {a:Act} {K:Act→World→Prop} {Q:Exit→Act→World→Prop} {E:Prop} {W:World}
theorem RW:(Tryz.prog.info? 45).map (fun i=>(i.zero,i.size,i.bytes))=some (some (.int .u32 0),1,4):=by kernel_rfl
theorem RY(hgd:o.guard=none)(s x:Operand)(ho:o.op=.call {callee:=.builtin .append,args:=#[s,x],argTypes:=#[27,27]})
  (base g c:Nat)(v:Value)(xs ys:List Nat)(hs:a.eval s=v)(hr:DP W base v xs)(hx:a.eval x=.slice (some ⟨g,0,none⟩) ys.length c)(hy:∀ j u,(ys.map fun v:Nat=>Value.int .u32 v)[j]?=some u→W.cell? ⟨g,j,none⟩=some u)
  (hl:xs.length+ys.length≤1000000)(hb:base≤W.heap.size)
  (h:∀ v' W1,DP W1 base v' (xs++ys)→W.grownBy W1 v.ownBlock→K (a.put o.dst v') W1) :
  if Region.wanted o (yielded ops a.tmps)=true then Oper.wp Tryz.prog o a W K Q else E:=by
 rw[if_pos (by simp[Region.wanted,hgd])];obtain⟨i9,hi,hz0,hz1,hz2⟩:=info_parts RW;obtain⟨v',w',hr',h2,h3,h4,h5⟩:=run_append_own_at (P:=Tryz.prog) W base 27 o.type 45 i9 (.int .u32 0) 1 4 Tryz.underlying27 hi hz0 hz1 hz2 rfl (by decide) v xs.length (xs.map fun x:Nat=>Value.int .u32 x) hr ⟨g,0,none⟩ ys.length c (ys.map fun x:Nat=>Value.int .u32 x) (by simp)
  (fun j u hj=>by rw[add_plain];exact hy j u hj) (by intro u hu;simp at hu;obtain⟨x,_,rfl⟩:=hu;rfl) (by simp[maxLen];omega) (by omega) hb
 unfold Oper.wp execOp;simp only[ho,resolve,invoke,builtin,Sem.run_bind,Sem.run_pure,Result.andThen_ok,List.map_toArray,List.map_cons,List.map_nil,hs,hx,hr'];refine h _ _ ?_ h3;unfold DP;rw[List.map_append,List.length_append];exact h2
theorem RZ(hgd:o.guard=none)(x:Operand)(ho:o.op=.buildSlice 92 1 #[(0,x)])(r7:Nat)(hx:a.eval x=.agg #[.int .i64 0,.int .i64 0,.int .i64 0,.int .i64 0,.int .i64 0,.int .i64 0,.int .i64 0,.int .i64 (r7:Int),.int .i64 0])
  (h:∀ g W1,Below W.heap.size W W1→W1.heap[g]?=some (.cells #[.int .i64 0,.int .i64 0,.int .i64 0,.int .i64 0,.int .i64 0,.int .i64 0,.int .i64 0,.int .i64 (r7:Int),.int .i64 0] 155 (0,0))→K (a.put o.dst (.slice (some ⟨g,0,none⟩) 1 1)) W1) :
  if Region.wanted o (yielded ops a.tmps)=true then Oper.wp Tryz.prog o a W K Q else E:=by
 rw[if_pos (by simp[Region.wanted,hgd])];obtain⟨i9,hi,hz0,hz1,hz2⟩:=info_parts K8;refine wp_buildSlice 92 155 1 _ ho #[.int .i64 0,.int .i64 0,.int .i64 0,.int .i64 0,.int .i64 0,.int .i64 0,.int .i64 0,.int .i64 (r7:Int),.int .i64 0] i9 (.agg Jk) Tryz.underlying92 hi hz0 (by rw[hz1];decide) (by rw[hz1];decide) ?_ (h _ _ (Bw W _) (Bv _ _));rw[hz1];simp only[List.map_toArray,List.map_cons,List.map_nil,hx]
 kernel_rfl
theorem Sd(hgd:o.guard=none)(s x:Operand)(ho:o.op=.call {callee:=.builtin .append,args:=#[s,x],argTypes:=#[92,92]})
  (base g r7:Nat)(v:Value)(xs:List CoreM)(hs:a.eval s=v)(hr:Ec W base v xs)(hx:a.eval x=.slice (some ⟨g,0,none⟩) 1 1)
  (hy:W.heap[g]?=some (.cells #[.int .i64 0,.int .i64 0,.int .i64 0,.int .i64 0,.int .i64 0,.int .i64 0,.int .i64 0,.int .i64 (r7:Int),.int .i64 0] 155 (0,0)))(hl:xs.length≤1000000)(hb:base≤W.heap.size)
  (h:∀ v' W1,Ec W1 base v' (xs++[⟨[0,0,0,0,0,0,0,r7],0⟩])→W.grownBy W1 v.ownBlock→K (a.put o.dst v') W1) :
  if Region.wanted o (yielded ops a.tmps)=true then Oper.wp Tryz.prog o a W K Q else E:=by
 obtain⟨i9,hi,hz0,hz1,hz2⟩:=info_parts K8;refine Fa hgd s x 92 ho base 155 i9 (.agg Jk) 9 72 Tryz.underlying92 hi hz0 hz1 hz2 rfl (by decide) v xs.length (Cc xs) hs hr g _ (0,0) hx hy rfl ?_ hl (by decide) hb ?_
 ·intro u hu;simp at hu;rcases hu with rfl |rfl |rfl |rfl |rfl |rfl |rfl |rfl |rfl<;>rfl
 ·intro v' W1 h1 h2 h4;refine h v' W1 ?_ h2;unfold Ec;rw[FJ,List.length_append];exact h1
end
structure Qb (w W:World) (px:Nat) (vl vc vw vr:Value) (pl:Option Addr) (pg:Pg) (cells:List (Nat×Nat)) (words:List Nat) (AG:List CoreM):Prop where
 b:Below w.heap.size w W
 Ko:w.heap.size≤px
 bx:W.heap[px]?=some (.cells #[vl,.int .i64 pg.lock,.int .i64 pg.unlock,vc,vw,.pointer pl,vr,.int .i64 0] 94 (0,0))
 cells:CP W w.heap.size vc cells
 words:DP W w.heap.size vw words
 AG:Ec W w.heap.size vr AG
theorem Qb.hz{w W:World}{px:Nat}{vl vc vw vr:Value}{pl:Option Addr}{pg:Pg}{cells:List (Nat×Nat)}{words:List Nat}{AG:List CoreM}(h:Qb w W px vl vc vw vr pl pg cells words AG):w.heap.size≤W.heap.size:=h.b.size
theorem Qb.keep{w W W1:World}{px:Nat}{vl vc vw vr:Value}{pl:Option Addr}{pg:Pg}{cells:List (Nat×Nat)}{words:List Nat}{AG:List CoreM}(h:Qb w W px vl vc vw vr pl pg cells words AG)(hb:Below W.heap.size W W1):Qb w W1 px vl vc vw vr pl pg cells words AG :=
 ⟨h.b.trans (hb.mono h.hz),h.Ko,Bk hb h.bx,Om h.cells (fun k hk=>hb.block k (Ol h.cells k hk)),Om h.words (fun k hk=>hb.block k (Ol h.words k hk)),Om h.AG (fun k hk=>hb.block k (Ol h.AG k hk))⟩
theorem Qb.PS{w W W1:World}{px:Nat}{vl vc vw vr v:Value}{pl:Option Addr}{pg:Pg}{cells:List (Nat×Nat)}{words words':List Nat}{AG:List CoreM}(h:Qb w W px vl vc vw vr pl pg cells words AG)(hr:DP W1 w.heap.size v words')(hg:W.grownBy W1 vw.ownBlock) :
  Qb w (W1.setCell ⟨px,4,none⟩ v) px vl vc v vr pl pg cells words' AG:=by
 have hb:=h.b.grown hg h.hz (fun k hk=>Ob h.words k hk);have hx:=Bg h.bx hg (Oa h.words h.bx (by decide));have h1:CP W1 w.heap.size vc cells:=BS h.cells h.words (by decide) hg;have h2:Ec W1 w.heap.size vr AG:=BS h.AG h.words (by decide) hg;exact⟨hb.setCell (p:=⟨px,4,none⟩) h.Ko v,h.Ko,Bs hx 4 v,Rs h1 hx (by decide) 4 v,Rs hr hx (by decide) 4 v,Rs h2 hx (by decide) 4 v⟩
theorem Qb.L1{w W W1:World}{px:Nat}{vl vc vw vr v:Value}{pl:Option Addr}{pg:Pg}{cells:List (Nat×Nat)}{words:List Nat}{AG cores':List CoreM}(h:Qb w W px vl vc vw vr pl pg cells words AG)(hr:Ec W1 w.heap.size v cores')(hg:W.grownBy W1 vr.ownBlock) :
  Qb w (W1.setCell ⟨px,6,none⟩ v) px vl vc vw v pl pg cells words cores':=by
 have hb:=h.b.grown hg h.hz (fun k hk=>Ob h.AG k hk);have hx:=Bg h.bx hg (Oa h.AG h.bx (by decide));have h1:CP W1 w.heap.size vc cells:=BS h.cells h.AG (by decide) hg;have h2:DP W1 w.heap.size vw words:=BS h.words h.AG (by decide) hg;exact⟨hb.setCell (p:=⟨px,6,none⟩) h.Ko v,h.Ko,Bs hx 6 v,Rs h1 hx (by decide) 6 v,Rs h2 hx (by decide) 6 v,Rs hr hx (by decide) 6 v⟩
theorem M4(W:World)(vl vs vi vr:Value)(pg:Pg)(ss is rs:List Nat)(n:Nat)(hl:Bx W vl pg.l.length (AQ pg.l))(hs:Bx W vs ss.length (ss.map fun s:Nat=>Value.int .i64 (s:Int)))
  (hi:Bx W vi is.length (is.map fun v:Nat=>Value.int .u32 v))(hr:Bx W vr rs.length (rs.map fun v:Nat=>Value.int .u32 v))(h8:ss.length≤8)(hle:∀ s∈ss,s≤4096)(E6:ss.sum≤8192)
  (h1:1≤n)(h2:n≤64)(Lb:0<is.length)(hi1:is.length≤100000)(hr1:rs.length≤1000)(Qm:∀ v∈is,v<4294967296)(QZ:∀ v∈rs,v<4294967296) :
  Calls Tryz.prog 71 #[.agg #[vl,.int .i64 pg.lock,.int .i64 pg.unlock,vs,vi,.int .i64 0,vr],.int .i64 (n:Int)] W fun e W'=>∃ px vc vw vo pl,e=.returned (.pointer (some ⟨px,0,none⟩))∧CS W W' px vl vc vw vo pl (AF.new pg ss is n 0 rs):=by
 have hb0:=Bw W (.cells #[vl,.int .i64 pg.lock,.int .i64 pg.unlock,vs,vi,.int .i64 0,vr] 29);have hC:=Az (IH _ vs ss (hs.keep hb0) h8 hle E6);have hN:=Bv W (.cells #[vl,.int .i64 pg.lock,.int .i64 pg.unlock,vs,vi,.int .i64 0,vr] 29);have hP:=Az (fun W=>Mh W n h1 h2);obtain⟨gi,ci,rfl,hic⟩:=hi.cells Lb;obtain⟨Ar,cr,rfl⟩:=hr.slice;obtain⟨As,cs,rfl⟩:=hs.slice;obtain⟨Al,cl,rfl⟩:=hl.slice;have hsz0:W.heap.size<(W.alloc (.cells #[.slice Al pg.l.length cl,.int .i64 pg.lock,.int .i64 pg.unlock,.slice As ss.length cs,.slice (some ⟨gi,0,none⟩) is.length ci,.int .i64 0,.slice Ar rs.length cr] 29)).heap.size:=by simp
 obtain⟨W1,hW1⟩:∃ X,W.alloc (.cells #[.slice Al pg.l.length cl,.int .i64 pg.lock,.int .i64 pg.unlock,.slice As ss.length cs,.slice (some ⟨gi,0,none⟩) is.length ci,.int .i64 0,.slice Ar rs.length cr] 29)=X:=⟨_,rfl⟩
 rw[hW1]at hb0 hC hN hsz0;obtain⟨fin,hfin⟩:∃ x,AF.new pg ss is n 0 rs=x:=⟨_,rfl⟩
 obtain⟨cells,hcells⟩:∃ x,Bt ss=x:=⟨_,rfl⟩
 obtain⟨ml,hml⟩:∃ x,pg.l.length=x:=⟨_,rfl⟩
 obtain⟨ms,hms⟩:∃ x,ss.length=x:=⟨_,rfl⟩
 obtain⟨mi,hmi⟩:∃ x,is.length=x:=⟨_,rfl⟩
 obtain⟨mr,hmr⟩:∃ x,rs.length=x:=⟨_,rfl⟩
 rw[hfin,hml,hms,hmi,hmr];rw[hml,hms,hmi,hmr]at hW1 hN;rw[hms,hcells]at hC;rw[hmi]at Lb hi1;rw[hmr]at hr1;replace hl:=Az hl;replace hr:=Az hr;replace hic:=Az hic;replace hb0:=Az hb0;replace hfin:=Az hfin;replace hml:=Az hml;replace hmi:=Az hmi;replace hmr:=Az hmr;replace hcells:=Az hcells;have n3:W1.cell? ⟨W.heap.size,3,none⟩=some (.slice As ms cs):=(Bc hN 3).trans rfl;replace hN:=Az hN;replace Qm:=Az Qm;replace QZ:=Az QZ;clear hs hi h8 hle E6 hms;go_enter Tryz.func71,Tryz.ntmps71;go_wp2_with fail
 try rw[hW1]
 clear hW1;refine hC.out.mono ?_;rintro e w2 ⟨vc,rfl,hcl,hb2⟩;replace hN:=Az (Bk hb2 hN.out);obtain⟨Ac,nc,cc,rfl⟩:=AV hcl;replace hcl:CP w2 W.heap.size _ cells:=EW hcl (by omega);replace hb0:=Az (hb0.out.trans (hb2.mono (by omega)));replace hcl:=Az hcl;clear hC hb2 n3;go_upto_region 2 with fail
 have hS5:(fun W'=>W'.cell? ⟨W.heap.size,0,none⟩=some (.slice Al ml cl)∧W'.cell? ⟨W.heap.size,1,none⟩=some (.int .i64 pg.lock)∧W'.cell? ⟨W.heap.size,2,none⟩=some (.int .i64 pg.unlock)∧W'.cell? ⟨W.heap.size,5,none⟩=some (.int .i64 0)) w2.drew:=⟨(Bc (Be hN.out) 0).trans rfl,(Bc (Be hN.out) 1).trans rfl,(Bc (Be hN.out) 2).trans rfl,(Bc (Be hN.out) 5).trans rfl⟩
 refine Av [] (S:=fun W'=>W'.cell? ⟨W.heap.size,0,none⟩=some (.slice Al ml cl)∧W'.cell? ⟨W.heap.size,1,none⟩=some (.int .i64 pg.lock)∧W'.cell? ⟨W.heap.size,2,none⟩=some (.int .i64 pg.unlock)∧W'.cell? ⟨W.heap.size,5,none⟩=some (.int .i64 0)) (by kernel_rfl) hS5 (fun hS0=>?_);clear hS5;try simp only[Act.put,Sa,Sb,Sc]
 refine tY 0 (fun _=>hS0) ?_;refine tL 1 (hS0) ?_;refine tY 2 (fun _=>hS0) ?_;refine tY 3 (fun _=>hS0) ?_;refine tY 4 (fun _=>hS0) ?_;refine tL 5 (hS0) ?_;refine Ab (rs:=[6]) (by kernel_rfl) (by simp) ?_;refine Aa.cons (Au rfl) (fun K hK=>?_) Aa.nil;go_simp
 go_at_call 101
 refine(hP.out _).mono ?_;rintro e w3 ⟨gp,rfl,hb3⟩;have hbd:=(Bd (Below.refl _ w2)).trans hb3;replace hS0:w3.cell? ⟨W.heap.size,0,none⟩=some (.slice Al ml cl)∧w3.cell? ⟨W.heap.size,1,none⟩=some (.int .i64 pg.lock)∧w3.cell? ⟨W.heap.size,2,none⟩=some (.int .i64 pg.unlock)∧w3.cell? ⟨W.heap.size,5,none⟩=some (.int .i64 0):=⟨Ck hb3 hS0.1,Ck hb3 hS0.2.1,Ck hb3 hS0.2.2.1,Ck hb3 hS0.2.2.2⟩
 replace hN:=Az (Bk hbd hN.out);replace hcl:=Az (show CP w3 W.heap.size _ cells from Om hcl.out (fun k hk=>hbd.block k (Ol hcl.out k hk)));replace hb0:=Az (hb0.out.trans (hbd.mono hb0.out.size));clear hP hb3 hbd;go_wp2_with fail
 refine hK.out _ _ (fun _=>hS0) (fun _=>?_);clear hK;try simp only[Act.put,Sa,Sb,Sc]
 refine tY 7 (fun _=>hS0) ?_;refine Ab (rs:=[8]) (by kernel_rfl) (by simp) ?_;refine Aa.cons (Au rfl) (fun K hK=>?_) Aa.nil;have hbx:=Bw w3 (.cells #[.slice Al ml cl,.int .i64 pg.lock,.int .i64 pg.unlock,.slice Ac nc cc,.slice none 0 0,.pointer (some ⟨gp,0,none⟩),.slice none 0 0,.int .i64 0] 94);have hI:Qb W (w3.alloc (.cells #[.slice Al ml cl,.int .i64 pg.lock,.int .i64 pg.unlock,.slice Ac nc cc,.slice none 0 0,.pointer (some ⟨gp,0,none⟩),.slice none 0 0,.int .i64 0] 94)) w3.heap.size (.slice Al ml cl) (.slice Ac nc cc) (.slice none 0 0) (.slice none 0 0) (some ⟨gp,0,none⟩) pg cells [] [] :=
  ⟨hb0.out.trans (hbx.mono hb0.out.size),hb0.out.size,Bv _ _,Om hcl.out (fun k hk=>hbx.block k (Ol hcl.out k hk)),⟨rfl,.inl ⟨rfl,rfl⟩⟩,⟨rfl,.inl ⟨rfl,rfl⟩⟩⟩
 replace hI:=Az hI;replace hN:=Az (Bk hbx hN.out);have hS1:(w3.alloc (.cells #[.slice Al ml cl,.int .i64 pg.lock,.int .i64 pg.unlock,.slice Ac nc cc,.slice none 0 0,.pointer (some ⟨gp,0,none⟩),.slice none 0 0,.int .i64 0] 94)).cell? ⟨W.heap.size,0,none⟩=some (.slice Al ml cl)∧(w3.alloc (.cells #[.slice Al ml cl,.int .i64 pg.lock,.int .i64 pg.unlock,.slice Ac nc cc,.slice none 0 0,.pointer (some ⟨gp,0,none⟩),.slice none 0 0,.int .i64 0] 94)).cell? ⟨W.heap.size,1,none⟩=some (.int .i64 pg.lock)∧(w3.alloc (.cells #[.slice Al ml cl,.int .i64 pg.lock,.int .i64 pg.unlock,.slice Ac nc cc,.slice none 0 0,.pointer (some ⟨gp,0,none⟩),.slice none 0 0,.int .i64 0] 94)).cell? ⟨W.heap.size,2,none⟩=some (.int .i64 pg.unlock)∧(w3.alloc (.cells #[.slice Al ml cl,.int .i64 pg.lock,.int .i64 pg.unlock,.slice Ac nc cc,.slice none 0 0,.pointer (some ⟨gp,0,none⟩),.slice none 0 0,.int .i64 0] 94)).cell? ⟨W.heap.size,5,none⟩=some (.int .i64 0):=⟨Ck hbx hS0.1,Ck hbx hS0.2.1,Ck hbx hS0.2.2.1,Ck hbx hS0.2.2.2⟩
 replace hS1:=Az hS1;obtain⟨w4,hw4⟩:∃ X,w3.alloc (.cells #[.slice Al ml cl,.int .i64 pg.lock,.int .i64 pg.unlock,.slice Ac nc cc,.slice none 0 0,.pointer (some ⟨gp,0,none⟩),.slice none 0 0,.int .i64 0] 94)=X:=⟨_,rfl⟩
 rw[hw4]at hI hN hS1;obtain⟨px,Ko⟩:∃ x,w3.heap.size=x:=⟨_,rfl⟩
 rw[Ko]at hI;clear hbx hb0 hcl hS0;go_simp
 go_wp2_with fail
 try rw[hw4]
 try rw[Ko]
 refine hK.out _ _ (fun _=>hS1.out) (fun _=>?_);clear hK hw4 Ko;try simp only[Act.put,Sa,Sb,Sc]
 refine tY 9 (fun _=>hS1.out) ?_;refine Ax (by kernel_rfl) ?_ _;clear hS1;go_upto_region 3 with fail
 have hI5:=hI.out.keep (Bd (Below.refl _ w4));have hS5:(fun W'=>W'.cell? ⟨px,4,none⟩=some (.slice none 0 0)∧W'.cell? ⟨W.heap.size,4,none⟩=some (.slice (some ⟨gi,0,none⟩) mi ci)) w4.drew:=⟨(Bc hI5.bx 4).trans rfl,(Bc (Be hN.out) 4).trans rfl⟩
 replace hI:=Az hI5;replace hN:=Az (Be hN.out);clear hI5;refine Av [10] (S:=fun W'=>W'.cell? ⟨px,4,none⟩=some (.slice none 0 0)∧W'.cell? ⟨W.heap.size,4,none⟩=some (.slice (some ⟨gi,0,none⟩) mi ci)) (by kernel_rfl) hS5 (fun hS0=>?_);clear hS5;generalize w4.drew=w4 at *;try simp only[Act.put,Sa,Sb,Sc]
 refine tY 0 (fun _=>hS0) ?_;refine tY 1 (fun _=>hS0) ?_;refine tY 2 (fun _=>hS0) ?_;refine tY 3 (fun _=>hS0) ?_;refine tL 4 (hS0) ?_;refine tY 5 (fun _=>hS0) ?_;refine tL 6 (hS0) ?_;refine Ab (rs:=[7]) (by kernel_rfl) (by simp) ?_;refine Aa.cons (Au rfl) (fun K hK=>?_) Aa.nil;refine RY rfl (.tmp 30) (.tmp 32) rfl W.heap.size gi ci _ [] is rfl hI.out.words (by rw[hmi.out];rfl) (fun j u hj=>Ck hI.out.b (hic.out j u hj)) (by simp;rw[hmi.out];omega) hI.out.hz (fun v5 w5 hr5 hg5=>?_);have hx5:=Bg hI.out.bx hg5 (Oa hI.out.words hI.out.bx (by decide));have hN5:=Bg hN.out hg5 (Oa hI.out.words hN.out (by decide));have hI6:=hI.out.PS (v:=v5) hr5 hg5;obtain⟨A5,n5,c5,rfl⟩:=AV hr5;have f5:=Bf hx5 4;have e5:w5.cell? ⟨px,4,none⟩=some (.slice none 0 0):=(Bc hx5 4).trans rfl;have z5:=Bl hx5;replace hS0:(fun W'=>W'.cell? ⟨px,4,none⟩=some (.slice none 0 0)∧W'.cell? ⟨W.heap.size,4,none⟩=some (.slice (some ⟨gi,0,none⟩) mi ci)) w5:=⟨e5,(Bc hN5 4).trans rfl⟩
 have hne:W.heap.size≠px:=C0 hN5 hx5 (by decide);have hN6:=Az (Ba (p:=⟨px,4,none⟩) hN5 hne (.slice A5 n5 c5));replace hI6:=Az hI6;refine hK.out _ _ (fun _=>hS0) (fun _=>?_);clear hK hr5 hg5 hx5 hN5 hI hN hic;try simp only[Act.put,Sa,Sb,Sc]
 refine tY 8 (fun _=>hS0) ?_;refine tY 9 (fun _=>hS0) ?_;clear hS0;obtain⟨w6,hw6⟩:∃ X,w5.setCell ⟨px,4,none⟩ (.slice A5 n5 c5)=X:=⟨_,rfl⟩
 rw[hw6]at hI6 hN6;refine Ab (rs:=[10]) (by kernel_rfl) (by simp) ?_;refine Aa.cons (Au rfl) (fun K hK=>?_) Aa.nil;go_simp
 go_wp2_with fail
 refine hK.out _ _ (fun h=>by cases h) (fun _=>?_);try rw[hw6]
 clear hK hw6 f5 e5 z5 hne;try simp only[Act.put,Sa,Sb,Sc]
 refine Ax (by kernel_rfl) ?_ _;have n6:w6.cell? ⟨W.heap.size,6,none⟩=some (.slice Ar mr cr):=(Bc hN6.out 6).trans rfl;clear hN6;go_wp2_with fail
 go_loopw [39] (fun v39 wr=>∃ (k:Nat) (vo:Value),v39=.int .i64 (k:Int)∧k≤mr∧Ag (Qb W wr px (.slice Al ml cl) (.slice Ac nc cc) (.slice A5 n5 c5) vo (some ⟨gp,0,none⟩) pg cells ([]++is) ((rs.take k).map fun v=>⟨[0,0,0,0,0,0,0,v],0⟩))) (fun v39 _=>mr-(intOf v39).toNat)
 case atStart=>exact⟨0,_,rfl,Nat.zero_le _,hI6⟩
 case round =>
  obtain⟨k,vo,rfl,hk,hI⟩:=hrel;clear hI6 n6;by_cases hlt:k<mr
  ·have hkl:k<rs.length:=by rw[hmr.out];exact hlt
   have hrr:=hr.out.keep hI.out.b;rw[hmr.out]at hrr;obtain⟨gr,cr',hvr,hrc⟩:=hrr.cells (by omega);cases hvr;have rk:=hrc k (.int .u32 ((rs.getD k 0:Nat):Int)) (by simp[hkl,List.getD_eq_getElem?_getD]);have hsn:rs.take (k+1)=rs.take k++[rs.getD k 0]:=by
    rw[List.take_succ_eq_append_getElem hkl,List.getD_eq_getElem?_getD,List.getElem?_eq_getElem hkl];rfl
   have hv:rs.getD k 0<4294967296:=QZ.out _ (by rw[List.getD_eq_getElem?_getD,List.getElem?_eq_getElem hkl];exact List.getElem_mem _);generalize rs.getD k 0=v at rk hsn hv;have k0:(0:Int)≤(k:Int):=by omega
   have k1:(k:Int)<(mr:Int):=by omega
   have kw:IntKind.i64.wrap ((k:Int)+1)=(k:Int)+1:=by rw[IntKind.wrap_i64];omega
   have vw:IntKind.i64.wrap (v:Int)=(v:Int):=by rw[IntKind.wrap_i64];omega
   have hbn:=Bw wr (.cells #[.int .i64 0,.int .i64 0,.int .i64 0,.int .i64 0,.int .i64 0,.int .i64 0,.int .i64 0,.int .i64 (v:Int),.int .i64 0] 155);have hI2:=Az (hI.out.keep hbn);have hnb:=Az (Bv wr (.cells #[.int .i64 0,.int .i64 0,.int .i64 0,.int .i64 0,.int .i64 0,.int .i64 0,.int .i64 0,.int .i64 (v:Int),.int .i64 0] 155));replace hsn:=Az hsn;clear hrr hrc hbn hI hv;go_upto_region 9 with fail
   obtain⟨gx,hgx⟩:∃ x,wr.heap.size=x:=⟨_,rfl⟩
   rw[hgx]at hnb;try rw[hgx]
   obtain⟨w7,hw7⟩:∃ X,wr.alloc (.cells #[.int .i64 0,.int .i64 0,.int .i64 0,.int .i64 0,.int .i64 0,.int .i64 0,.int .i64 0,.int .i64 (v:Int),.int .i64 0] 155)=X:=⟨_,rfl⟩
   rw[hw7]at hI2 hnb;try rw[hw7]
   clear hw7 hgx rk;have hI3:=hI2.out.keep (Bd (Below.refl _ w7));have hS5:(fun W'=>W'.cell? ⟨px,6,none⟩=some vo∧W'.cell? ⟨gx,0,none⟩=some (.int .i64 0)∧W'.cell? ⟨gx,1,none⟩=some (.int .i64 0)∧W'.cell? ⟨gx,2,none⟩=some (.int .i64 0)∧W'.cell? ⟨gx,3,none⟩=some (.int .i64 0)∧W'.cell? ⟨gx,4,none⟩=some (.int .i64 0)∧W'.cell? ⟨gx,5,none⟩=some (.int .i64 0)∧W'.cell? ⟨gx,6,none⟩=some (.int .i64 0)∧W'.cell? ⟨gx,7,none⟩=some (.int .i64 (v:Int))∧W'.cell? ⟨gx,8,none⟩=some (.int .i64 0)) w7.drew:=⟨(Bc hI3.bx 6).trans rfl,(Bc (Be hnb.out) 0).trans rfl,(Bc (Be hnb.out) 1).trans rfl,(Bc (Be hnb.out) 2).trans rfl,(Bc (Be hnb.out) 3).trans rfl,(Bc (Be hnb.out) 4).trans rfl,(Bc (Be hnb.out) 5).trans rfl,(Bc (Be hnb.out) 6).trans rfl,(Bc (Be hnb.out) 7).trans rfl,(Bc (Be hnb.out) 8).trans rfl⟩
   refine Av [7,10] (S:=fun W'=>W'.cell? ⟨px,6,none⟩=some vo∧W'.cell? ⟨gx,0,none⟩=some (.int .i64 0)∧W'.cell? ⟨gx,1,none⟩=some (.int .i64 0)∧W'.cell? ⟨gx,2,none⟩=some (.int .i64 0)∧W'.cell? ⟨gx,3,none⟩=some (.int .i64 0)∧W'.cell? ⟨gx,4,none⟩=some (.int .i64 0)∧W'.cell? ⟨gx,5,none⟩=some (.int .i64 0)∧W'.cell? ⟨gx,6,none⟩=some (.int .i64 0)∧W'.cell? ⟨gx,7,none⟩=some (.int .i64 (v:Int))∧W'.cell? ⟨gx,8,none⟩=some (.int .i64 0)) (by kernel_rfl) hS5 (fun hS0=>?_);replace hI2:=Az hI3;clear hS5 hI3 hnb;generalize w7.drew=w7 at *;try simp only[Act.put,Sa,Sb,Sc]
   refine tY 0 (fun _=>hS0) ?_;refine tY 1 (fun _=>hS0) ?_;refine tY 2 (fun _=>hS0) ?_;refine tY 3 (fun _=>hS0) ?_;refine tL 4 (hS0) ?_;refine tL 5 (hS0) ?_;refine Ab (rs:=[6]) (by kernel_rfl) (by simp) ?_;refine Aa.cons (Au rfl) (fun K hK=>?_) Aa.nil;refine RZ rfl (.tmp 52) rfl v rfl (fun g8 w8 hb8 hy8=>?_);replace hI2:=Az (hI2.out.keep hb8);replace hS0:(fun W'=>W'.cell? ⟨px,6,none⟩=some vo∧W'.cell? ⟨gx,0,none⟩=some (.int .i64 0)∧W'.cell? ⟨gx,1,none⟩=some (.int .i64 0)∧W'.cell? ⟨gx,2,none⟩=some (.int .i64 0)∧W'.cell? ⟨gx,3,none⟩=some (.int .i64 0)∧W'.cell? ⟨gx,4,none⟩=some (.int .i64 0)∧W'.cell? ⟨gx,5,none⟩=some (.int .i64 0)∧W'.cell? ⟨gx,6,none⟩=some (.int .i64 0)∧W'.cell? ⟨gx,7,none⟩=some (.int .i64 (v:Int))∧W'.cell? ⟨gx,8,none⟩=some (.int .i64 0)) w8:=⟨Ck hb8 hS0.1,Ck hb8 hS0.2.1,Ck hb8 hS0.2.2.1,Ck hb8 hS0.2.2.2.1,Ck hb8 hS0.2.2.2.2.1,Ck hb8 hS0.2.2.2.2.2.1,Ck hb8 hS0.2.2.2.2.2.2.1,Ck hb8 hS0.2.2.2.2.2.2.2.1,Ck hb8 hS0.2.2.2.2.2.2.2.2.1,Ck hb8 hS0.2.2.2.2.2.2.2.2.2⟩
   refine hK.out _ _ (fun _=>hS0) (fun _=>?_);clear hK hb8;try simp only[Act.put,Sa,Sb,Sc]
   refine Ab (rs:=[7]) (by kernel_rfl) (by simp) ?_;refine Aa.cons (Au rfl) (fun K hK=>?_) Aa.nil;refine Sd rfl (.tmp 51) (.tmp 53) rfl W.heap.size g8 v _ _ rfl hI2.out.AG rfl hy8 (by rw[List.length_map,List.length_take];omega) hI2.out.hz (fun v9 w9 hr9 hg9=>?_);have hx9:=Bg hI2.out.bx hg9 (Oa hI2.out.AG hI2.out.bx (by decide));have hI9:=hI2.out.L1 (v:=v9) hr9 hg9;rw[show(rs.take k).map (fun v=>(⟨[0,0,0,0,0,0,0,v],0⟩:CoreM))++[⟨[0,0,0,0,0,0,0,v],0⟩]=(rs.take (k+1)).map (fun v=>(⟨[0,0,0,0,0,0,0,v],0⟩:CoreM)) by rw[hsn.out,List.map_append];rfl]at hI9;obtain⟨A9,n9,c9,rfl⟩:=AV hr9;have f9:=Bf hx9 6;have e9:w9.cell? ⟨px,6,none⟩=some vo:=(Bc hx9 6).trans rfl;have z9:=Bl hx9;replace hI9:=Az hI9;refine hK.out _ _ (fun h=>by cases h) (fun _=>?_);clear hK hS0 hr9 hg9 hx9 hI2 hy8 hsn;try simp only[Act.put,Sa,Sb,Sc]
   refine tY 8 (fun h=>by cases h) ?_;refine tY 9 (fun h=>by cases h) ?_;obtain⟨w10,hw10⟩:∃ X,w9.setCell ⟨px,6,none⟩ (.slice A9 n9 c9)=X:=⟨_,rfl⟩
   rw[hw10]at hI9;refine Ab (rs:=[10]) (by kernel_rfl) (by simp) ?_;refine Aa.cons (Au rfl) (fun K hK=>?_) Aa.nil;go_simp
   go_wp2_with fail
   refine hK.out _ _ (fun h=>by cases h) (fun _=>?_);try rw[hw10]
   clear hK hw10 f9 e9 z9;try simp only[Act.put,Sa,Sb,Sc]
   refine Ax (by kernel_rfl) ?_ _;go_wp2;go_roundw
   case rel=>exact⟨k+1,_,by go_num,hlt,hI9⟩
   case measure=>simp[intOf];omega
  ·obtain rfl:k=mr:=by omega
   have n1:¬(k:Int)<(k:Int):=by omega
   have hE:CS W wr px (.slice Al ml cl) (.slice Ac nc cc) (.slice A5 n5 c5) vo (some ⟨gp,0,none⟩) fin:=by
    have hI':=hI.out;rw[←hmr.out,List.take_length,List.nil_append]at hI';have hl':=hl.out;rw[←hfin.out];rw[←hcells.out]at hI';refine⟨hI'.b,hI'.Ko,⟨0,hI'.bx⟩,?_,hI'.cells,hI'.words,hI'.AG,fun c hc=>?_,fun v hv=>Qm.out v hv⟩
    ·rw[←hml.out];exact hl'
    ·obtain⟨v,hv,rfl⟩:=List.mem_map.1 hc;have:=QZ.out v hv;refine⟨rfl,fun j=>?_⟩;rcases j with _ |_ |_ |_ |_ |_ |_ |_ |j
     all_goals first |exact this |exact(by decide:(0:Nat)<4294967296)
   replace hE:=Az hE;clear hI;go_wp2;go_ret;first |exact⟨_,rfl,_,_,_,_,hE.out⟩ |exact⟨_,_,_,_,_,rfl,hE.out⟩ |exact⟨_,_,_,rfl,_,_,hE.out⟩ |exact⟨_,_,_,_,hE.out⟩ |exact⟨_,_,_,_,_,hE.out⟩ |exact⟨_,_,_,hE.out⟩
structure SY (pg:Pg):Prop where
 l0:0<pg.l.length
 l1:pg.l.length≤64
 a0:0≤pg.lock
 a1:pg.lock<pg.l.length
 b0:0≤pg.unlock
 b1:pg.unlock<pg.l.length
 wk:∀ i∈pg.l,i.wk
 ok:∀ i∈pg.l,AD i pg.l.length=true
theorem LJ(W:World)(vl:Value)(pg:Pg)(hl:Bx W vl pg.l.length (AQ pg.l))(hp:SY pg) :
  Calls Tryz.prog 38 #[.agg #[vl,.int .i64 pg.lock,.int .i64 pg.unlock]] W fun e W'=>e=.returned (.bool true)∧Below W.heap.size W W':=by
 obtain⟨gl,cl,rfl,hc0⟩:=hl.cells hp.l0;obtain⟨m,hm⟩:∃ m,pg.l.length=m:=⟨_,rfl⟩
 obtain⟨lk,hlk⟩:∃ m,pg.lock=m:=⟨_,rfl⟩
 obtain⟨ul,hul⟩:∃ m,pg.unlock=m:=⟨_,rfl⟩
 have m0:=hp.l0;have m1:=hp.l1;have a0:=hp.a0;have a1:=hp.a1;have b0:=hp.b0;have b1:=hp.b1;rw[hm]at m0 m1 a1 b1 ⊢;rw[hlk]at a0 a1 ⊢;rw[hul]at b0 b1 ⊢;have i1:¬(m:Int)<1:=by omega
 have i2:¬(64:Int)<(m:Int):=by omega
 have i3:¬lk<0:=by omega
 have i4:¬ul<0:=by omega
 have i5:¬(m:Int)≤lk:=by omega
 have i6:¬(m:Int)≤ul:=by omega
 clear a0 a1 b0 b1 hlk hul;have hb0:=Az (Bw W (.cells #[.slice (some ⟨gl,0,none⟩) m cl,.int .i64 lk,.int .i64 ul] 25));replace hc0:=Az hc0;replace hm:=Az hm;replace hp:=Az hp;clear hl;go_enter Tryz.func38,Tryz.ntmps38;go_wp2_with fail
 go_loopw [40] (fun v40 wr=>∃ (k:Nat),v40=.int .i64 (k:Int)∧k≤m∧Ag (Below W.heap.size W wr)) (fun v40 _=>m-(intOf v40).toNat)
 case atStart=>exact⟨0,rfl,Nat.zero_le _,hb0⟩
 case round =>
  obtain⟨k,rfl,hk,hB⟩:=hrel;clear hb0 i1 i2 i3 i4 i5 i6;by_cases hlt:k<m
  ·have hkx:k<pg.l.length:=by rw[hm.out];exact hlt
   have hmem:pg.l.getD k In.zero∈pg.l:=by rw[List.getD_eq_getElem?_getD,List.getElem?_eq_getElem hkx];exact List.getElem_mem _
   have hwk:=hp.out.wk _ hmem;have hok:=hp.out.ok _ hmem;rw[hm.out]at hok;obtain⟨⟨op,d,s,t,u,a,kk,q⟩,hi⟩:∃ i,pg.l.getD k In.zero=i:=⟨_,rfl⟩
   rw[hi]at hwk hok;obtain⟨a0,a1,a2,a3,a4,a5,a6,a7⟩:=D7 (fun j u hj=>Ck hB.out (hc0.out j u hj)) hkx hi;have k0:(0:Int)≤(k:Int):=by omega
   have k1:(k:Int)<(m:Int):=by omega
   have kw:IntKind.i64.wrap ((k:Int)+1)=(k:Int)+1:=by rw[IntKind.wrap_i64];omega
   have R6:=fun W=>FG ⟨op,d,s,t,u,a,kk,q⟩ (m:Int) hwk W
   rw[hok]at R6;dsimp only[In.v]at R6;replace R6:=Az R6;have hE:=Az (hB.out.trans ((Bw wr (.cells #[.int .i64 op,.int .i64 d,.int .i64 s,.int .i64 t,.int .i64 u,.int .i64 a,.int .u32 kk,.int .i64 q] 114)).mono hB.out.size));clear hi hkx hmem hwk hok hB;go_wp2_with fail
   refine(R6.out _).mono ?_;rintro e w5 ⟨rfl,hb5⟩;replace hE:=Az (hE.out.trans (hb5.mono hE.out.size));clear hb5 R6 a0 a1 a2 a3 a4 a5 a6 a7;go_wp2;go_roundw
   case rel=>exact⟨k+1,by go_num,hlt,hE⟩
   case measure=>simp[intOf];omega
  ·obtain rfl:k=m:=by omega
   have n1:¬(k:Int)<(k:Int):=by omega
   go_wp2;go_ret;exact⟨rfl,hB.out⟩
theorem EO(W:World)(vl vs vi vr:Value)(pg:Pg)(ss is rs:List Nat)(each n:Nat)(hl:Bx W vl pg.l.length (AQ pg.l))(hs:Bx W vs ss.length (ss.map fun s:Nat=>Value.int .i64 (s:Int)))
  (hi:Bx W vi is.length (is.map fun v:Nat=>Value.int .u32 v))(hr:Bx W vr rs.length (rs.map fun v:Nat=>Value.int .u32 v))(h8:ss.length≤8)(hle:∀ s∈ss,s≤4096)(E6:ss.sum≤8192)
  (h1:1≤n)(h2:n≤64)(he:each≤8)(Nh:ss.sum=is.length)(Nn:rs.length=n)(hp:SY pg) :
  Calls Tryz.prog 14 #[.agg #[vl,.int .i64 pg.lock,.int .i64 pg.unlock,vs,vi,.int .i64 (each:Int),vr],.int .i64 (n:Int)] W fun e W'=>e=.returned (.bool true)∧Below W.heap.size W W':=by
 have hb0:=Bw W (.cells #[vl,.int .i64 pg.lock,.int .i64 pg.unlock,vs,vi,.int .i64 (each:Int),vr] 29);have hC:=Az (IH _ vs ss (hs.keep hb0) h8 hle E6);have hN:=Bv W (.cells #[vl,.int .i64 pg.lock,.int .i64 pg.unlock,vs,vi,.int .i64 (each:Int),vr] 29);have hR:=Az (fun W1 (hb:Below W.heap.size W W1)=>LJ W1 vl pg (hl.keep hb) hp);obtain⟨Ai,ci,rfl⟩:=hi.slice;obtain⟨Ar,cr,rfl⟩:=hr.slice;obtain⟨As,cs,rfl⟩:=hs.slice;obtain⟨Al,cl,rfl⟩:=hl.slice;obtain⟨W1,hW1⟩:∃ X,W.alloc (.cells #[.slice Al pg.l.length cl,.int .i64 pg.lock,.int .i64 pg.unlock,.slice As ss.length cs,.slice Ai is.length ci,.int .i64 (each:Int),.slice Ar rs.length cr] 29)=X:=⟨_,rfl⟩
 rw[hW1]at hb0 hC hN;have hml:(Bt ss).length=is.length:=by unfold Bt;rw[G6];exact Nh
 obtain⟨cells,hcells⟩:∃ x,Bt ss=x:=⟨_,rfl⟩
 rw[hcells]at hC hml;rw[Nn]at hW1 hN;generalize is.length=mi at *;rw[Nn];have n3:W1.cell? ⟨W.heap.size,3,none⟩=some (.slice As ss.length cs):=(Bc hN 3).trans rfl;have n0:(1:Int)≤(n:Int):=by omega
 have n1:(n:Int)≤64:=by omega
 have e0:(0:Int)≤(each:Int):=by omega
 have e1:(each:Int)≤8:=by omega
 generalize hlg:pg.l.length=ml at *;generalize ss.length=ms at *;generalize hlk:pg.lock=lk at *;generalize hul:pg.unlock=ul at *;replace hb0:=Az hb0;replace hN:=Az hN;replace hml:=Az hml;clear hl hs hi hr h8 hle E6 Nh Nn hp hcells he h1 h2 hlg hlk hul;go_enter Tryz.func14,Tryz.ntmps14;go_wp2_with fail
 try rw[hW1]
 clear hW1;refine hC.out.mono ?_;rintro e w2 ⟨vc,rfl,hcl,hb2⟩;replace hN:=Az (Bk hb2 hN.out);obtain⟨Ac,cc,rfl⟩:=IG hcl;rw[hml.out];replace hb0:=Az (hb0.out.trans (hb2.mono hb0.out.size));clear hC hb2 n3 hml hcl;have c0:w2.cell? ⟨W.heap.size,0,none⟩=some (.slice Al ml cl):=(Bc hN.out 0).trans rfl;have c1:w2.cell? ⟨W.heap.size,1,none⟩=some (.int .i64 lk):=(Bc hN.out 1).trans rfl;have c2:w2.cell? ⟨W.heap.size,2,none⟩=some (.int .i64 ul):=(Bc hN.out 2).trans rfl;have c4:w2.cell? ⟨W.heap.size,4,none⟩=some (.slice Ai mi ci):=(Bc hN.out 4).trans rfl;have c5:w2.cell? ⟨W.heap.size,5,none⟩=some (.int .i64 (each:Int)):=(Bc hN.out 5).trans rfl;have c6:w2.cell? ⟨W.heap.size,6,none⟩=some (.slice Ar n cr):=(Bc hN.out 6).trans rfl;clear hN;go_wp2_with fail
 refine(hR.out _ hb0.out).mono ?_;rintro e w3 ⟨rfl,hb3⟩;replace hb0:=Az (hb0.out.trans (hb3.mono hb0.out.size));clear hR hb3 c0 c1 c2 c4 c5 c6;go_wp2;go_ret;exact⟨rfl,hb0.out⟩
theorem BX.DJ{B:Nat}{Ts:List TypeId}{M:Nat→Prop}{w w':World}(h:BX B Ts (fun _=>False) w w'):BX B Ts M w w' :=
 ⟨h.os,h.tape,h.output,h.size,fun k hk hc=>h.block k hk (hc.imp id fun h2=>⟨fun f=>f,h2.2⟩)⟩
theorem BX.Wy{B:Nat}{Ts:List TypeId}{M:Nat→Prop}{a w:World}(h:BX B Ts M a w){p:Addr}(hM:M p.block)(hB:B≤p.block)(v:Value):BX B Ts M a (w.setCell p v) :=
 h.trans ⟨rfl,rfl,rfl,by simp[World.setCell],fun k hk hc=>Below.heap_setCell _ _ _ _ fun e=>by
  subst e;rcases hc with hc |⟨hc,_⟩
  ·omega
  ·exact hc hM⟩
def Jn(vd:Value)(k:Nat):Prop:=vd.ownBlock=some k
section
variable {w W W1:World} {pr px:Nat} {vl vc vw vr vd ve:Value} {pl:Option Addr} {r:AH}
theorem C5.keep(h:C5 w W pr px vl vc vw vr pl vd ve r)(hb:Below W.heap.size W W1):C5 w W1 pr px vl vc vw vr pl vd ve r :=
 ⟨h.x.keep hb,h.HX,Bk hb h.br,Om h.act (fun k hk=>hb.block k (Ol h.act k hk)),Om h.l (fun k hk=>hb.block k (Ol h.l k hk))⟩
theorem C5.Ie{g n c t v:Nat}(h:C5 w W pr px vl vc vw vr pl (.slice (some ⟨g,0,none⟩) n c) ve r)(ht:t<r.act.length):∀ W',W'=W.setCell ⟨g,t,none⟩ (.int .i64 v) →
  C5 w W' pr px vl vc vw vr pl (.slice (some ⟨g,0,none⟩) n c) ve {r with act:=r.act.set t v}∧BX w.heap.size [3] (fun _=>False) W W'∧BX w.heap.size [] (Jn (.slice (some ⟨g,0,none⟩) n c)) W W':=by
 rintro W' rfl;have ha:=h.act;unfold BL at ha;obtain⟨g',c',hv,_,hg,⟨cs,hcs,_⟩,_⟩:=Cw ha (by omega);have e1:g=g':=by injection hv with h1 h2 h3;injection h1 with h1;injection h1
 have e2:n=r.act.length:=by injection hv
 subst e1;subst e2;have F:BX w.heap.size [3] (fun _=>False) W (W.setCell ⟨g,t,none⟩ (.int .i64 v)):=(BX.refl _ _ _ W).set (p:=⟨g,t,none⟩) hcs (by simp) hg _;have hp:=Dk ha t (by omega) (.int .i64 v);refine⟨⟨h.x.frame F (by decide) (by decide) (by decide) (by decide),h.HX,F.FP h.br (by decide) (fun f=>f),?_,F.own h.l (by decide) (fun _ _ f=>f)⟩,F,BX.Wy (M:=Jn (.slice (some ⟨g,0,none⟩) r.act.length c)) (BX.refl _ _ _ W) (p:=⟨g,t,none⟩) (show Value.ownBlock _=_ from rfl) hg _⟩;unfold BL;simp only[List.length_set,List.map_set];exact hp
theorem C5.Uz(h:C5 w W pr px vl vc vw vr pl vd ve r):∀ W',W'=W.setCell ⟨pr,3,none⟩ (.int .i64 1) →
  C5 w W' pr px vl vc vw vr pl vd ve {r with bad:=true}∧BX w.heap.size [90] (fun _=>False) W W':=by
 rintro W' rfl;have F:BX w.heap.size [90] (fun _=>False) W (W.setCell ⟨pr,3,none⟩ (.int .i64 1)):=(BX.refl _ _ _ W).set (p:=⟨pr,3,none⟩) h.br (by simp) h.HX _;exact⟨⟨h.x.frame F (by decide) (by decide) (by decide) (by decide),h.HX,Bs h.br 3 (.int .i64 1),F.own h.act (by decide) (fun _ _ f=>f),F.own h.l (by decide) (fun _ _ f=>f)⟩,F⟩
end
theorem Wz(k:Nat)(hk:k<5)(W:World):(Instr.index 156 (.agg #[.int .i64 0,.int .i64 2,.int .i64 3,.int .i64 4,.int .i64 9]) (.int .i64 (k:Int))).run Tryz.prog W=.ok (.int .i64 (FA k:Int)) W:=by
 match k,hk with
 |0,_=>simp[Instr.index,Sem.run_bind,asIntOf,go_sem];rfl
 |1,_=>simp[Instr.index,Sem.run_bind,asIntOf,go_sem];rfl
 |2,_=>simp[Instr.index,Sem.run_bind,asIntOf,go_sem];rfl
 |3,_=>simp[Instr.index,Sem.run_bind,asIntOf,go_sem];rfl
 |4,_=>simp[Instr.index,Sem.run_bind,asIntOf,go_sem];rfl
def GR:List TypeId:=[90,97]
def Vw(w W:World)(pr px:Nat)(vl vc vw vr:Value)(pl:Option Addr)(vd:Value)(r:AH)(e:Ending)(W':World):Prop :=
 e=.returned (.tuple #[])∧∃ ve',C5 w W' pr px vl vc vw vr pl vd ve' r∧BX w.heap.size GR (Jn vd) W W'
theorem Fi(w W:World)(pr px:Nat)(vl vc vw vr:Value)(pl:Option Addr)(vd ve vm:Value)(r:AH)(t:Nat)(o:DR)(h:C5 w W pr px vl vc vw vr pl vd ve r)(ht:t<r.act.length)(ht2:r.act.length≤64)
  (hm:AS W w.heap.size vm o.marks)(hmk:∀ k∈o.marks,0≤k∧k<5)(hml:o.marks.length≤300)(hl:r.l.length+o.marks.length≤90000000) :
  Calls Tryz.prog 73 #[.pointer (some ⟨pr,0,none⟩),.int .i64 t,.agg #[vm,.int .i64 o.done,.int .i64 o.addr,.int .i64 (o.wrote:Int),.int .i64 (o.stay:Int),.int .i64 o.e]] W (Vw w W pr px vl vc vw vr pl vd (r.Eh t o)):=by
 obtain⟨A,c,rfl⟩:=hm.slice;obtain⟨m,hmm⟩:∃ m,o.marks.length=m:=⟨_,rfl⟩
 rw[hmm]at hm hml hl ⊢;obtain⟨W1,hW1⟩:∃ X,W.alloc (.cells #[.slice A m c,.int .i64 o.done,.int .i64 o.addr,.int .i64 (o.wrote:Int),.int .i64 (o.stay:Int),.int .i64 o.e] 135)=X:=⟨_,rfl⟩
 have hb1:Below W.heap.size W W1:=by rw[←hW1];exact Bw W _
 have b5:W1.heap[W.heap.size]?=some (.cells #[.slice A m c,.int .i64 o.done,.int .i64 o.addr,.int .i64 (o.wrote:Int),.int .i64 (o.stay:Int),.int .i64 o.e] 135 (0,0)):=by rw[←hW1];exact Bv W _
 have hR1:=h.keep hb1;have hm1:AS W1 w.heap.size (.slice A m c) o.marks:=hm.keep hb1;have q0:W1.cell? ⟨W.heap.size,0,none⟩=some (.slice A m c):=(Bc b5 0).trans rfl;have FW:BX w.heap.size GR (fun _=>False) W W1:=BX.Cj hb1;obtain⟨fin,hfin⟩:∃ x,r.Eh t o=x:=⟨_,rfl⟩
 rw[hfin];replace hfin:=Az hfin;replace h:=Az h;replace hR1:=Az hR1;replace hm1:=Az hm1;replace b5:=Az b5;replace FW:=Az FW;replace hmm:=Az hmm;go_enter Tryz.func73,Tryz.ntmps73;go_wp2_with fail
 try rw[hW1]
 clear hW1;go_loopw [7,11] (fun v7 v11 wr=>∃ (n:Nat) (ve':Value),v11=.int .i64 (n:Int)∧n≤m∧Ag (C5 w wr pr px vl vc vw vr pl vd ve' {r with l:=r.l++(o.marks.take n).map (fun k=>(FA k,t))})∧Ag (BX w.heap.size [90,97] (fun _=>False) W1 wr)) (fun _ v11 _=>m-(intOf v11).toNat)
 case atStart=>exact⟨0,ve,rfl,Nat.zero_le _,⟨by simpa using hR1.out⟩,⟨BX.refl _ _ _ _⟩⟩
 case round =>
  obtain⟨n,ve',rfl,hn,hR,hF⟩:=hrel;by_cases hlt:n<m
  ·have hnm:n<o.marks.length:=by rw[hmm.out];exact hlt
   obtain⟨g,c',hv,_,hcell⟩:=AS.cell (hF.out.own hm1.out (by decide) (fun _ _ f=>f)) (by omega);have hcn:=hcell n hnm;have hA:A=some ⟨g,0,none⟩:=by injection hv
   subst hA;have hkm:=hmk (o.marks.getD n 0) (by rw[List.getD_eq_getElem?_getD,List.getElem?_eq_getElem hnm];exact List.getElem_mem _);have htake:(o.marks.take (n+1)).map (fun k=>(FA k,t))=(o.marks.take n).map (fun k=>(FA k,t))++[(FA (o.marks.getD n 0),t)]:=by
    rw[List.take_succ_eq_append_getElem hnm,List.map_append,List.getD_eq_getElem?_getD,List.getElem?_eq_getElem hnm];rfl
   generalize o.marks.getD n 0=k at *;have n0:(0:Int)≤(n:Int):=by omega
   have n1:(n:Int)<(m:Int):=by omega
   have nw:IntKind.i64.wrap ((n:Int)+1)=(n:Int)+1:=by rw[IntKind.wrap_i64];omega
   have hent:=fun kk=>E9 w wr pr px vl vc vw vr pl vd ve' _ kk t hR.out (by simp;omega)
   replace hent:=Az hent;replace htake:=Az htake;clear hcell hv;obtain⟨kn,rfl⟩:∃ y:Nat,k=y:=⟨k.toNat,by omega⟩
   have hix:=fun W=>Wz kn (by omega) W
   go_wp2_with fail
   refine(hent.out _).mono ?_;rintro e w2 ⟨rfl,ve2,hR2,hF2⟩;rw[List.append_assoc]at hR2;go_wp2;go_roundw
   case rel=>exact⟨n+1,ve2,by go_num,hlt,⟨by rw[htake.out];exact hR2⟩,⟨hF.out.trans hF2⟩⟩
   case measure=>simp[intOf];omega
  ·obtain rfl:n=m:=by omega
   have n1:¬(n:Int)<(n:Int):=by omega
   have hR2:=hR.out;rw[←hmm.out,List.take_length]at hR2;have b5':=hF.out.FP b5.out (by decide) (fun f=>f);have e5:wr.cell? ⟨W.heap.size,5,none⟩=some (.int .i64 o.e):=(Bc b5' 5).trans rfl;have e1:wr.cell? ⟨W.heap.size,1,none⟩=some (.int .i64 o.done):=(Bc b5' 1).trans rfl;have hact:=hR2.act;unfold BL at hact;obtain⟨gd,cd,hvd,_,hgd,⟨cs,hcs,_⟩,hcell⟩:=Cw hact (show 0<r.act.length by omega);subst hvd;obtain⟨nd,hnd⟩:∃ y,r.act.length=y:=⟨_,rfl⟩
   have c1:wr.cell? ⟨pr,1,none⟩=some (.slice (some ⟨gd,0,none⟩) nd cd):=by rw[←hnd];exact(Bc hR2.br 1).trans rfl
   obtain⟨av,hav⟩:∃ y,r.act.getD t 0=y:=⟨_,rfl⟩
   have ca:wr.cell? ⟨gd,t,none⟩=some (.int .i64 (av:Int)):=hcell t _ (by rw[←hav];simp[List.getD_eq_getElem?_getD,List.getElem?_eq_getElem ht]);have t0:(0:Int)≤(t:Int):=by omega
   have t1:(t:Int)<(nd:Int):=by omega
   have hf:=hfin.out;unfold AH.Eh at hf;rw[hav]at hf;obtain⟨bm,hbm⟩:∃ b,Kv av o=b:=⟨_,rfl⟩
   rw[hbm]at hf;clear hfin hcell hact b5';replace hf:=Az hf;replace hR2:=Az hR2;go_upto_region 6 with fail
   go_cut [43] from 22 to 22 (fun v43 wx=>v43=.bool bm∧wx=wr.drew)
   case first =>
    unfold Kv at hbm;by_cases he:o.e=0
    ·have x1:(o.e != 0)=false:=by simp[he]
     by_cases hd:o.done≥0
     ·have x2:((av:Int)==3)=decide (av=3):=by
       by_cases h3:av=3
       ·subst h3;rfl
       ·rw[decide_eq_false h3];exact Bq (by omega)
      have x3:(o.done==2)=decide (o.done=2):=by
       by_cases h3:o.done=2
       ·rw[h3];rfl
       ·rw[decide_eq_false h3];exact Bq h3
      obtain⟨y2,hy2⟩:∃ y,decide (av=3)=y:=⟨_,rfl⟩
      obtain⟨y3,hy3⟩:∃ y,decide (o.done=2)=y:=⟨_,rfl⟩
      rw[hy2]at x2 hbm;rw[hy3]at x3 hbm;rw[decide_eq_false (fun h=>h he),decide_eq_true hd,Bool.false_or,Bool.true_and]at hbm;clear he;subst hbm;go_region
      go_wp2_with fail
      go_meet
      exact⟨rfl,rfl⟩
     ·rw[decide_eq_false (fun h=>h he),decide_eq_false hd]at hbm;have hd':o.done<0:=by omega
      clear he;subst hbm;go_region
      go_wp2_with fail
      go_meet
      exact⟨rfl,rfl⟩
    ·have x1:(o.e != 0)=true:=bne_iff_ne.2 he;rw[decide_eq_true he,Bool.true_or]at hbm;subst hbm;go_region
     go_wp2_with fail
     go_meet
     exact⟨rfl,rfl⟩
   case rest =>
    obtain⟨rfl,rfl⟩:=hcut;clear e5;have hRd:=hR2.out.keep (Bd (Below.refl _ _));have hFd:=((hF.out.then (Bd (Below.refl _ _))).mono (Ts':=GR) (by simp[GR]))
    replace hFd:=Az hFd;cases bm with
    |true =>
     have c3:wr.cell? ⟨pr,3,none⟩=some (.int .i64 (Qw r.bad)):=(Bc hR2.out.br 3).trans rfl;have f3:=Bf hR2.out.br 3;replace hRd:=Az hRd;go_wp2;obtain⟨hR5,hF5⟩:=hR2.out.Uz _ rfl;refine bodyPost_ret (fn:=Tryz.f73) (v:=.tuple #[]) (results_none rfl _ _ _) rfl ⟨rfl,ve',?_,(FW.out.DJ.trans ((BX.DJ (hF.out.mono (Ts':=GR) (by simp[GR]))).trans (BX.DJ (hF5.mono (by simp[GR]))))).drew⟩;rw[←hf.out];simp only[if_true];rw[←hnd];exact hR5.keep (Bd (Below.refl _ _))
    |false =>
     have hent:=fun kk=>E9 w wr.drew pr px vl vc vw vr pl _ ve' _ kk t hRd (by simp only[List.length_append,List.length_map];have:=hmm.out;omega)
     have hR3:=hRd;replace hent:=Az hent;clear hRd;replace hf:=hf.out;rw[if_neg (by decide)]at hf;by_cases hd0:o.done=0
     ·rw[hd0]at hf;replace hf:=Az hf;replace hR3:=Az hR3;have x0:(o.done==0)=true:=by rw[hd0];rfl
      have x1:(o.done==1)=false:=by rw[hd0];rfl
      have x2:(o.done==2)=false:=by rw[hd0];rfl
      have x3:(o.done==3)=false:=by rw[hd0];rfl
      clear hd0;go_wp2_with fail
      refine(hent.out 6).mono ?_;rintro e w2 ⟨rfl,ve2,hR4,hF4⟩;have hact4:=hR4.act;unfold BL at hact4;obtain⟨g4,c4,hv4,_,_,⟨cs4,hcs4,_⟩,hcell4⟩:=Cw hact4 (show 0<r.act.length by omega);have eg:gd=g4:=by injection hv4 with h1 h2 h3;injection h1 with h1;injection h1
      rw[←eg]at hcs4 hcell4;have c14:w2.cell? ⟨pr,1,none⟩=some (.slice (some ⟨gd,0,none⟩) nd cd):=by rw[←hnd];exact(Bc hR4.br 1).trans rfl
      have ca4:w2.cell? ⟨gd,t,none⟩=some (.int .i64 (av:Int)):=hcell4 t _ (by rw[←hav];simp[List.getD_eq_getElem?_getD,List.getElem?_eq_getElem ht]);have fa4:=Bf hcs4 t;clear hcell4 hv4 hcs4 eg hact4 x0 x1 x2 x3;replace hR4:=Az hR4;go_wp2;obtain⟨hR5,_,hF5⟩:=hR4.out.Ie (v:=0) ht _ rfl;refine bodyPost_end (fn:=Tryz.f73) (v:=.tuple #[]) (results_none rfl _ _ _) rfl ⟨rfl,ve2,?_,FW.out.DJ.trans ((hFd.out.DJ.trans (BX.DJ (hF4.mono (by simp[GR])))).trans (hF5.mono (by simp)))⟩;rw[←hf.out,←hnd];exact hR5
     ·by_cases hd1:o.done=1
      ·rw[hd1]at hf;replace hf:=Az hf;replace hR3:=Az hR3;have x0:(o.done==0)=false:=by rw[hd1];rfl
       have x1:(o.done==1)=true:=by rw[hd1];rfl
       have x2:(o.done==2)=false:=by rw[hd1];rfl
       have x3:(o.done==3)=false:=by rw[hd1];rfl
       clear hd1;go_wp2_with fail
       refine(hent.out 5).mono ?_;rintro e w2 ⟨rfl,ve2,hR4,hF4⟩;have hact4:=hR4.act;unfold BL at hact4;obtain⟨g4,c4,hv4,_,_,⟨cs4,hcs4,_⟩,hcell4⟩:=Cw hact4 (show 0<r.act.length by omega);have eg:gd=g4:=by injection hv4 with h1 h2 h3;injection h1 with h1;injection h1
       rw[←eg]at hcs4 hcell4;have c14:w2.cell? ⟨pr,1,none⟩=some (.slice (some ⟨gd,0,none⟩) nd cd):=by rw[←hnd];exact(Bc hR4.br 1).trans rfl
       have ca4:w2.cell? ⟨gd,t,none⟩=some (.int .i64 (av:Int)):=hcell4 t _ (by rw[←hav];simp[List.getD_eq_getElem?_getD,List.getElem?_eq_getElem ht]);have fa4:=Bf hcs4 t;clear hcell4 hv4 hcs4 eg hact4 x0 x1 x2 x3;replace hR4:=Az hR4;go_wp2;obtain⟨hR5,_,hF5⟩:=hR4.out.Ie (v:=2) ht _ rfl;refine bodyPost_end (fn:=Tryz.f73) (v:=.tuple #[]) (results_none rfl _ _ _) rfl ⟨rfl,ve2,?_,FW.out.DJ.trans ((hFd.out.DJ.trans (BX.DJ (hF4.mono (by simp[GR])))).trans (hF5.mono (by simp)))⟩;rw[←hf.out,←hnd];exact hR5
      ·by_cases hd2:o.done=2
       ·rw[hd2]at hf;replace hf:=Az hf;replace hR3:=Az hR3;have x0:(o.done==0)=false:=by rw[hd2];rfl
        have x1:(o.done==1)=false:=by rw[hd2];rfl
        have x2:(o.done==2)=true:=by rw[hd2];rfl
        have x3:(o.done==3)=false:=by rw[hd2];rfl
        clear hd2;go_wp2_with fail
        refine(hent.out 10).mono ?_;rintro e w2 ⟨rfl,ve2,hR4,hF4⟩;have hact4:=hR4.act;unfold BL at hact4;obtain⟨g4,c4,hv4,_,_,⟨cs4,hcs4,_⟩,hcell4⟩:=Cw hact4 (show 0<r.act.length by omega);have eg:gd=g4:=by injection hv4 with h1 h2 h3;injection h1 with h1;injection h1
        rw[←eg]at hcs4 hcell4;have c14:w2.cell? ⟨pr,1,none⟩=some (.slice (some ⟨gd,0,none⟩) nd cd):=by rw[←hnd];exact(Bc hR4.br 1).trans rfl
        have ca4:w2.cell? ⟨gd,t,none⟩=some (.int .i64 (av:Int)):=hcell4 t _ (by rw[←hav];simp[List.getD_eq_getElem?_getD,List.getElem?_eq_getElem ht]);have fa4:=Bf hcs4 t;clear hcell4 hv4 hcs4 eg hact4 x0 x1 x2 x3;replace hR4:=Az hR4;go_wp2;obtain⟨hR5,_,hF5⟩:=hR4.out.Ie (v:=0) ht _ rfl;refine bodyPost_end (fn:=Tryz.f73) (v:=.tuple #[]) (results_none rfl _ _ _) rfl ⟨rfl,ve2,?_,FW.out.DJ.trans ((hFd.out.DJ.trans (BX.DJ (hF4.mono (by simp[GR])))).trans (hF5.mono (by simp)))⟩;rw[←hf.out,←hnd];exact hR5
       ·by_cases hd3:o.done=3
        ·rw[hd3]at hf;replace hf:=Az hf;replace hR3:=Az hR3;have x0:(o.done==0)=false:=by rw[hd3];rfl
         have x1:(o.done==1)=false:=by rw[hd3];rfl
         have x2:(o.done==2)=false:=by rw[hd3];rfl
         have x3:(o.done==3)=true:=by rw[hd3];rfl
         clear hd3;go_wp2_with fail
         refine(hent.out 7).mono ?_;rintro e w2 ⟨rfl,ve2,hR4,hF4⟩;have hact4:=hR4.act;unfold BL at hact4;obtain⟨g4,c4,hv4,_,_,⟨cs4,hcs4,_⟩,hcell4⟩:=Cw hact4 (show 0<r.act.length by omega);have eg:gd=g4:=by injection hv4 with h1 h2 h3;injection h1 with h1;injection h1
         rw[←eg]at hcs4 hcell4;have c14:w2.cell? ⟨pr,1,none⟩=some (.slice (some ⟨gd,0,none⟩) nd cd):=by rw[←hnd];exact(Bc hR4.br 1).trans rfl
         have ca4:w2.cell? ⟨gd,t,none⟩=some (.int .i64 (av:Int)):=hcell4 t _ (by rw[←hav];simp[List.getD_eq_getElem?_getD,List.getElem?_eq_getElem ht]);have fa4:=Bf hcs4 t;clear hcell4 hv4 hcs4 eg hact4 x0 x1 x2 x3;replace hR4:=Az hR4;go_wp2;obtain⟨hR5,_,hF5⟩:=hR4.out.Ie (v:=0) ht _ rfl;refine bodyPost_end (fn:=Tryz.f73) (v:=.tuple #[]) (results_none rfl _ _ _) rfl ⟨rfl,ve2,?_,FW.out.DJ.trans ((hFd.out.DJ.trans (BX.DJ (hF4.mono (by simp[GR])))).trans (hF5.mono (by simp)))⟩;rw[←hf.out,←hnd];exact hR5
        ·have x0:(o.done==0)=false:=Bq hd0;have x1:(o.done==1)=false:=Bq hd1;have x2:(o.done==2)=false:=Bq hd2;have x3:(o.done==3)=false:=Bq hd3;have he:J2 o.done=none:=by simp[J2,hd0,hd1,hd2,hd3]
         rw[he]at hf;replace hf:=Az hf;replace hR3:=Az hR3;clear he;go_wp2;refine bodyPost_end (fn:=Tryz.f73) (v:=.tuple #[]) (results_none rfl _ _ _) rfl ⟨rfl,ve',?_,FW.out.DJ.trans hFd.out.DJ⟩;rw[←hf.out,←hnd];exact hR3.out
end
end Go.Proofs.YtjjpiefgdggghaaGreatDoor

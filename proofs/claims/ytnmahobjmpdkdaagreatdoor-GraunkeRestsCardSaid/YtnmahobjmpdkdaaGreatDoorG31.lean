/- Parts: Laid, Cells, Pool0, New, Rights. -/
import Derived.Test.YtnmahobjmpdkdaaGreatDoorCards
import Derived.Test.YtnmahobjmpdkdaaGreatDoorTie
import Derived.Test.YtnmahobjmpdkdaaGreatDoorG03
import Derived.ProofKit
import Derived.LaidMore
import Derived.OpenShut
import Derived.Deep.DeepHandedRow
import Derived.Lib.LaidTab
import Derived.Lib.LaidU8
import Derived.Stop.LaidErr
import Derived.JoinedCond
import Derived.Deep.DeepWitnessRowRef
import Derived.Test.YtnmahobjmpdkdaaGreatDoorG07
import Derived.Test.YtnmahobjmpdkdaaGreatDoorG02
import Derived.Test.YtnmahobjmpdkdaaGreatDoorG26
import Derived.Test.YtnmahobjmpdkdaaGreatDoorG09
import Derived.Test.YtnmahobjmpdkdaaGreatDoorG30
set_option linter.unusedVariables false
set_option linter.unusedSimpArgs false
set_option maxRecDepth 100000
set_option maxHeartbeats 40000000
namespace Go.Proofs.YtnmahobjmpdkdaaGreatDoor
section
open Go Go.ChangeShapes Go.WideShapes Go.ChangeAt Go.RowKit
theorem own:ownKnob Tryz.prog.godebug=none:=by kernel_rfl
theorem AaD:Tryz.prog.globalNamed "internal/strconv.uint64pow10" = some 5:=by kernel_rfl
theorem AaE:Tryz.prog.globalNamed "strconv.ErrSyntax" = some 1:=by kernel_rfl
theorem AaF:Tryz.prog.globalNamed "strconv.ErrRange" = some 2:=by kernel_rfl
theorem AaG:(Tryz.prog.globals[5]?).map (·.type)=some 228:=by kernel_rfl
theorem AaH:(Tryz.prog.globals[1]?).map (·.type)=some 172:=by kernel_rfl
theorem AaI:(Tryz.prog.globals[2]?).map (·.type)=some 172:=by kernel_rfl
theorem c64:Tryz.prog.cellsOf 187=1:=by kernel_rfl
theorem c20:Tryz.prog.cellsOf 228=20:=by kernel_rfl
theorem Se : "*" ++ "errors.errorString" = "*errors.errorString" :=by decide +kernel
theorem Vv(u:TypeId)(h:Tryz.prog.typeName? 3 u=some "*errors.errorString"):u=224 :=
 typeName_ptr_named (nm := "errors.errorString") (by rw[Se];kernel_rfl) (by kernel_rfl) (by decide) u (by rw[Se];exact h)
def PJ:List (String×DataW Unit):=Rows.ticketPlaysRow.laid
theorem DU{W:World}(h:laidMetH Tryz.prog PJ W)(hs:W.ShapedOpen Tryz.prog):Env W:=by
 rw[MakeChecks.laidMetH_plain _ _ _ (by kernel_rfl)]at h;have h2:=h.tail.tail;have h4:=h2.tail.tail;have h5:=h4.tail;obtain⟨a1,s1,hv1,_⟩:=laid_sentinel h4 AaF AaI Tryz.underlying172 Vv Tryz.underlying224 Tryz.underlying226 rfl rfl Tryz.underlying9 (by kernel_rfl) (by kernel_rfl);obtain⟨a2,s2,hv2,_⟩:=laid_sentinel h5 AaE AaH Tryz.underlying172 Vv Tryz.underlying224 Tryz.underlying226 rfl rfl Tryz.underlying9 (by kernel_rfl) (by kernel_rfl);exact⟨hs,Lib.tabIs_of_head (zs:=Lib.pow10Tab) AaD AaG Tryz.underlying228 Tryz.underlying187 c64 c20 h2,⟨_,_,hv2⟩,⟨_,_,hv1⟩⟩
noncomputable def Bi (os:Os):World :=
 {World.doorLaid Tryz.prog 72 os with heap:=(World.doorLaid Tryz.prog 72 os).heap.modify 3 fun
  |.cells _ t frozen=>.cells (Lib.firstTab.map (Value.int .u8)).toArray t frozen
  |o=>o}
theorem CM(os:Os)(args:Array Value):laidMetH Tryz.prog PJ ((Bi os).forCall (fun _ _=>0) ⟨#[],args,[]⟩).memory :=
 laidMetH_of_parts3 (fuel:=8) (laidMet_of_run' 8 (by kernel_rfl) (by kernel_rfl)) (by kernel_rfl) (by kernel_rfl)
theorem CJ{H:Type}{enc:TypeId×Value→H}{P:Program}{f:Func}{s:ChangeSpec}{W W':World}{args:Array Value}{ds gs:List (DataW H)}{before pa:List MemPlace}{v:Value}
  (hW:DataW.Whole enc P f.params.toList s.vars false W args.toList ds gs before)(hb:Below W.heap.size W W')
  (hres:∀ (b:Nat) (sp:Nat→Bool) (hd:Bool),DataW.TrodAll enc P W' b sp hd f.resultTypes.toList (v.resultList f.resultTypes.size) (s.fn H (ds++gs)).results [])
  (hargs:DataW.TrodAll enc P W' 0 (fun b=>decide (b<W.heap.size)) true f.params.toList args.toList (s.fn H (ds++gs)).args pa)
  (hvars:∀ sp:Nat→Bool,DataW.TrodVars enc P W' sp s.vars (s.fn H (ds++gs)).vars []) :
  s.post enc P f false true false false W args v W' :=
 ⟨ds,gs,before,[],pa,[],hW,hres _ _ _,hargs,hvars _,hb.frame _,fun h=>by cases h⟩
end
section
open Go.RowKit Go.Proofs.YtnmahobjmpdkdaaGreatDoorW.PrintWords
theorem Xe:(Tryz.prog.info? 106).map (fun i=>(i.zero,i.size,i.bytes))=some (some (.agg #[.int .i64 0,.int .i64 0]),2,16):=by kernel_rfl
section
variable {ops:Array Oper} {rest:List Oper} {o:Oper} {a:Act} {Q:Exit→Act→World→Prop} {W:World}
theorem YD(hgd:o.guard=none)(s x:Operand)(ho:o.op=.call {callee:=.builtin .append,args:=#[s,x],argTypes:=#[62,62]})
  (base g:Nat)(y:Nat×Nat)(v:Value)(xs:List (Nat×Nat))(hs:a.eval s=v)(hr:Dn W base v xs)(hx:a.eval x=.slice (some ⟨g,0,none⟩) 1 1)
  (hy:W.heap[g]?=some (.cells #[.int .i64 (y.1:Int),.int .i64 (y.2:Int)] 106 (0,0)))(hl:xs.length≤1000000)(hb:base≤W.heap.size)
  (h:∀ v' W1,Dn W1 base v' (xs++[y])→W.grownBy W1 v.ownBlock→wpList Tryz.prog ops Q rest (a.put o.dst v') W1) :
  wpList Tryz.prog ops Q (o::rest) a W:=by
 obtain⟨i9,hi,hz0,hz1,hz2⟩:=info_parts Xe;refine wpList_append_own_at _ hgd s x 62 ho base 106 i9 (.agg #[.int .i64 0,.int .i64 0]) 2 16 Tryz.underlying62 hi hz0 hz1 hz2 rfl (by decide) v xs.length (Ef xs) hs hr ⟨g,0,none⟩ 1 1 [.int .i64 (y.1:Int),.int .i64 (y.2:Int)] hx rfl ?_ ?_ ?_ ?_ hb ?_
 ·intro j u hj;rw[add_plain];exact(Bc hy j).trans (by simpa using hj)
 ·intro u hu;simp at hu;rcases hu with rfl |rfl<;>rfl
 ·simp[maxLen];omega
 ·omega
 ·intro v' W1 h1 h2 _ h4;refine h v' W1 ?_ h2;unfold Dn;rw[show Ef (xs++[y])=Ef xs++[.int .i64 (y.1:Int),.int .i64 (y.2:Int)] by simp[Ef],List.length_append];exact h1
end
theorem Ke{W:World}{base n size:Nat}{e:TypeId}{v:Value}{xs:List Value}(h:W.ownsRow base e size v n xs):∃ A c,v=.slice A n c:=by
 rcases h.2 with ⟨rfl,h0⟩ |⟨g,cap,cur,rfl,_⟩
 ·exact⟨none,0,by rw[h0]⟩
 ·exact⟨_,_,rfl⟩
theorem Hl:∀ (l:List Nat) (k s:Nat),B9 k (l++[s])=B9 k l++(List.range s).map (fun i=>(k+l.length,i))
 |[],k,s=>by simp[B9]
 |x::l,k,s=>by
  rw[List.cons_append,B9,Hl l,B9,List.append_assoc,List.length_cons];rw[show k+1+l.length=k+(l.length+1) by omega]
theorem QN{ss:List Nat}{a:Nat}(h:a<ss.length):B9 0 (ss.take (a+1))=B9 0 (ss.take a)++(List.range (ss.getD a 0)).map (fun i=>(a,i)):=by
 rw[List.take_succ_eq_append_getElem h,Hl,List.length_take,Nat.min_eq_left (by omega),Nat.zero_add,List.getD_eq_getElem?_getD,List.getElem?_eq_getElem h];rfl
theorem H5:∀ (l:List Nat) (k:Nat),(B9 k l).length=l.sum
 |[],_=>rfl
 |x::l,k=>by simp[B9,H5 l]
theorem JR(W:World)(vs:Value)(ss:List Nat)(hs:Cg W vs ss.length (ss.map fun s:Nat=>Value.int .i64 (s:Int)))(h8:ss.length≤8)(hle:∀ s∈ss,s≤4096)(DD:ss.sum≤8192) :
  Calls Tryz.prog 42 #[vs] W fun e W'=>∃ v,e=.returned (.tuple #[v,.bool true])∧Dn W' W.heap.size v (AL ss)∧Below W.heap.size W W':=by
 obtain⟨A,c,rfl⟩:=hs.slice;obtain⟨m,hm⟩:∃ m,ss.length=m:=⟨_,rfl⟩
 obtain⟨fin,hfin⟩:∃ z,AL ss=z:=⟨_,rfl⟩
 have hfl:fin.length≤8192:=by rw[←hfin];unfold AL;rw[H5];exact DD
 rw[hm]at hs h8 ⊢;rw[hfin];have m8:¬(8:Int)<(m:Int):=by omega
 replace hm:=Az hm;replace hs:=Az hs;replace hfin:=Az hfin;replace hle:=Az hle;replace DD:=Az DD;go_enter Tryz.func42,Tryz.ntmps42;go_wp2_with fail
 go_loopw [4,13] (fun v4 v13 wr=>∃ (k:Nat),v13=.int .i64 (k:Int)∧k≤m∧Af (Dn wr W.heap.size v4 (B9 0 (ss.take k)))∧Af (Below W.heap.size W wr)) (fun _ v13 _=>m-(intOf v13).toNat)
 case atStart=>exact⟨0,rfl,Nat.zero_le _,⟨⟨rfl,.inl ⟨rfl,rfl⟩⟩⟩,⟨Below.refl _ _⟩⟩
 case round =>
  obtain⟨k,rfl,hk,hR,hB⟩:=hrel;clear m8;by_cases hlt:k<m
  ·have hkl:k<ss.length:=by rw[hm.out];exact hlt
   obtain⟨g,c',hvs,hcell⟩:=(hs.out.keep hB.out).cells (by omega);cases hvs;have ck:=hcell k (.int .i64 ((ss.getD k 0:Nat):Int)) (by simp[hkl,List.getD_eq_getElem?_getD]);have hct:=QN hkl;have hsl:ss.getD k 0≤4096:=hle.out _ (by rw[List.getD_eq_getElem?_getD,List.getElem?_eq_getElem hkl];exact List.getElem_mem _);have hpre:(B9 0 (ss.take (k+1))).length≤8192:=by
    rw[H5];have h1:ss.sum=(ss.take (k+1)).sum+(ss.drop (k+1)).sum:=by rw[←List.sum_append,List.take_append_drop]
    have:=DD.out;omega
   generalize ss.getD k 0=s at ck hct hsl;rw[hct]at hpre;rw[List.length_append,List.length_map,List.length_range]at hpre;have s0:¬(s:Int)<0:=by omega
   have s1:¬(4096:Int)<(s:Int):=by omega
   have k0:(0:Int)≤(k:Int):=by omega
   have k1:(k:Int)<(m:Int):=by omega
   have nw:IntKind.i64.wrap ((k:Int)+1)=(k:Int)+1:=by rw[IntKind.wrap_i64];omega
   replace hct:=Az hct;clear hcell;go_wp2_with fail
   go_loopw [4,7] (fun v4 v7 wr=>∃ (i:Nat),v7=.int .i64 (i:Int)∧i≤s∧Af (Dn wr W.heap.size v4 (B9 0 (ss.take k)++(List.range i).map (fun j=>(k,j))))∧Af (Below W.heap.size W wr)) (fun _ v7 _=>s-(intOf v7).toNat)
   case atStart=>exact⟨0,rfl,Nat.zero_le _,⟨by simpa using hR.out⟩,hB⟩
   case round =>
    obtain⟨i,rfl,hi,hRi,hBi⟩:=hrel;clear ck s0 s1;by_cases Jo:i<s
    ·have i1:(i:Int)<(s:Int):=by omega
     have iw:IntKind.i64.wrap ((i:Int)+1)=(i:Int)+1:=by rw[IntKind.wrap_i64];omega
     have hbl:=Bw wr (.cells #[.int .i64 (k:Int),.int .i64 (i:Int)] 106);have hR2:Dn (wr.alloc (.cells #[.int .i64 (k:Int),.int .i64 (i:Int)] 106)) W.heap.size _ _:=Om hRi.out (fun k hk=>hbl.block k (Ol hRi.out k hk));have hsz:=hBi.out.size;have hll:(B9 0 (ss.take k)++(List.range i).map (fun j=>(k,j))).length≤1000000:=by
      rw[List.length_append,List.length_map,List.length_range];omega
     replace hbl:=Az (hBi.out.trans (hbl.mono hsz));replace hR2:=Az hR2;go_wp2_with (at_builtin;refine YD rfl (.tmp 29) (.tmp 33) rfl W.heap.size wr.heap.size (k,i) _ _ rfl hR2.out rfl (Bv _ _) hll ?hb3 ?_)
     case hb3=>simp;omega
     rintro v3 W3 hr3 hg3;have hb3:=hbl.out.grown hg3 (by simp;omega) (fun k hk=>Ob hR2.out k hk);rw[show(List.range i).map (fun j=>(k,j))++[(k,i)]=(List.range (i+1)).map (fun j=>(k,j)) by rw[List.range_succ,List.map_append];rfl]at hr3;replace hr3:=Az hr3;replace hb3:=Az hb3;clear hR2 hg3 hbl;go_wp2;go_roundw
     case rel=>exact⟨i+1,by go_num,Jo,hr3,hb3⟩
     case measure=>simp[intOf];omega
    ·obtain rfl:i=s:=by omega
     have i1:¬(i:Int)<(i:Int):=by omega
     have hRk:=hRi.out;rw[←hct.out]at hRk;replace hRk:=Az hRk;go_wp2;go_roundw
     case rel=>exact⟨k+1,by go_num,hlt,hRk,hBi⟩
     case measure=>simp[intOf];omega
  ·obtain rfl:k=m:=by omega
   have n1:¬(k:Int)<(k:Int):=by omega
   have hRk:=hR.out;rw[←hm.out,List.take_length,show B9 0 ss=fin from hfin.out]at hRk;obtain⟨A3,c3,rfl⟩:=Ke hRk;replace hRk:=Az hRk;have fl:(fin.length:Int)≤8192:=by omega
   go_wp2;go_ret2
   exact⟨_,rfl,hRk.out,hB.out⟩
theorem WE:(Tryz.prog.info? 27).map (fun i=>(i.zero,i.size,i.bytes))=some (some (.slice none 0 0),1,24):=by kernel_rfl
def Jp(W:World)(base:Nat)(v:Value)(k:Nat):Prop:=W.ownsRow base 27 1 v k (List.replicate k (.slice none 0 0))
section
variable {ops:Array Oper} {rest:List Oper} {o:Oper} {a:Act} {Q:Exit→Act→World→Prop} {W:World}
theorem WG(hgd:o.guard=none)(s x:Operand)(ho:o.op=.call {callee:=.builtin .append,args:=#[s,x],argTypes:=#[116,116]})
  (base g:Nat)(v:Value)(k:Nat)(hs:a.eval s=v)(hr:Jp W base v k)(hx:a.eval x=.slice (some ⟨g,0,none⟩) 1 1)
  (hy:W.heap[g]?=some (.cells #[.slice none 0 0] 27 (0,0)))(hl:k≤1000000)(hb:base≤W.heap.size)
  (h:∀ v' W1,Jp W1 base v' (k+1)→W.grownBy W1 v.ownBlock→wpList Tryz.prog ops Q rest (a.put o.dst v') W1) :
  wpList Tryz.prog ops Q (o::rest) a W:=by
 obtain⟨i9,hi,hz0,hz1,hz2⟩:=info_parts WE;refine wpList_append_own_at _ hgd s x 116 ho base 27 i9 (.slice none 0 0) 1 24 Tryz.underlying116 hi hz0 hz1 hz2 rfl (by decide) v k (List.replicate k (.slice none 0 0)) hs hr ⟨g,0,none⟩ 1 1 [.slice none 0 0] hx rfl ?_ ?_ ?_ ?_ hb ?_
 ·intro j u hj;rw[add_plain];exact(Bc hy j).trans (by simpa using hj)
 ·intro u hu;simp at hu;subst hu;rfl
 ·simp[maxLen];omega
 ·omega
 ·intro v' W1 h1 h2 _ h4;refine h v' W1 ?_ h2;unfold Jp;rw[List.replicate_succ'];exact h1
end
theorem OY(W:World)(n:Nat)(h1:1≤n)(h2:n≤64) :
  Calls Tryz.prog 82 #[.int .i64 (n:Int),.int .i64 0] W fun e W'=>∃ g,e=.returned (.pointer (some ⟨g,0,none⟩))∧Below W.heap.size W W':=by
 have a1:¬(n:Int)<1:=by omega
 have a2:¬(64:Int)<(n:Int):=by omega
 have hb0:=Bw W (.cells #[.int .i64 0,.slice none 0 0,.slice none 0 0,.slice none 0 0] 118);have hn0:=Bv W (.cells #[.int .i64 0,.slice none 0 0,.slice none 0 0,.slice none 0 0] 118);replace hb0:=Az hb0;replace hn0:=Az hn0;go_enter Tryz.func82,Tryz.ntmps82;go_wp2_with fail
 go_loopw [6] (fun v6 wr=>∃ (k:Nat) (vf:Value),v6=.int .i64 (k:Int)∧k≤n∧Af (wr.heap[W.heap.size]?=some (.cells #[.int .i64 0,vf,.slice none 0 0,.slice none 0 0] 118 (0,0)))∧Af (Jp wr W.heap.size vf k)∧Af (Below W.heap.size W wr)) (fun v6 _=>n-(intOf v6).toNat)
 case atStart=>exact⟨0,.slice none 0 0,rfl,Nat.zero_le _,hn0,⟨⟨rfl,.inl ⟨rfl,rfl⟩⟩⟩,hb0⟩
 case round =>
  obtain⟨k,vf,rfl,hk,hn,hR,hB⟩:=hrel;clear hn0 hb0 a1 a2;by_cases hlt:k<n
  ·have k1:(k:Int)<(n:Int):=by omega
   have kw:IntKind.i64.wrap ((k:Int)+1)=(k:Int)+1:=by rw[IntKind.wrap_i64];omega
   have hbl:=Bw wr (.cells #[.slice none 0 0] 27);have hR2:Jp (wr.alloc (.cells #[.slice none 0 0] 27)) W.heap.size vf k:=Om hR.out (fun k hk=>hbl.block k (Ol hR.out k hk));have hn2:=Bk hbl hn.out;have hsz:=hB.out.size;have c1:wr.cell? ⟨W.heap.size,1,none⟩=some vf:=(Bc hn.out 1).trans rfl;have z0:W.heap.size<wr.heap.size:=Bl hn.out;replace hbl:=Az (hB.out.trans (hbl.mono hsz));replace hR2:=Az hR2;replace hn2:=Az hn2;clear hn;go_wp2_with fail
   go_loopw [7,8] (fun v7 v8 wi=>v7=.slice none 0 0∧v8=.int .i64 1∧wi=wr) (fun _ v8 _=>0)
   case atStart=>exact⟨rfl,rfl,rfl⟩
   case round =>
    obtain⟨rfl,rfl,hw⟩:=hrel;subst hw;go_wp2_with (at_builtin;refine WG rfl (.tmp 66) (.tmp 68) rfl W.heap.size wr.heap.size vf k rfl hR2.out rfl (Bv _ _) ?hl3 ?hb3 ?_)
    case hl3=>omega
    case hb3=>simp;omega
    rintro v3 W3 hr3 hg3;have hb3:=hbl.out.grown hg3 (by simp;omega) (fun k hk=>Ob hR2.out k hk);have hn3:=Bg hn2.out hg3 (Oa hR2.out hn2.out (by decide));have f3:=Bf hn3 1;have c3:W3.cell? ⟨W.heap.size,1,none⟩=some vf:=(Bc hn3 1).trans rfl;have hn4:=Bs hn3 1 v3;have hr4:Jp _ W.heap.size v3 (k+1):=Rs hr3 hn3 (by decide) 1 v3;have hb4:=hb3.setCell (p:=⟨W.heap.size,1,none⟩) (Nl _) v3;obtain⟨A3,n3,c3',rfl⟩:=AB hr3;replace hn4:=Az hn4;replace hr4:=Az hr4;replace hb4:=Az hb4;clear hr3 hg3 hn3 hb3 hR2 hbl hn2;go_wp2;go_roundw
    case rel=>exact⟨k+1,_,by go_num,hlt,hn4,hr4,hb4⟩
    case measure=>simp[intOf];omega
  ·obtain rfl:k=n:=by omega
   have n1:¬(k:Int)<(k:Int):=by omega
   go_wp2;go_ret;exact⟨⟨_,rfl⟩,hB.out⟩
section
variable {ops:Array Oper} {o:Oper} {a:Act} {K:Act→World→Prop} {Q:Exit→Act→World→Prop} {E:Prop} {W:World}
theorem Un:(Tryz.prog.info? 22).map (fun i=>(i.zero,i.size,i.bytes))=some (some (.int .u32 0),1,4):=by kernel_rfl
theorem Uo(hgd:o.guard=none)(s x:Operand)(ho:o.op=.call {callee:=.builtin .append,args:=#[s,x],argTypes:=#[28,28]})
  (base g c:Nat)(v:Value)(xs ys:List Nat)(hs:a.eval s=v)(hr:E6 W base v xs)(hx:a.eval x=.slice (some ⟨g,0,none⟩) ys.length c)(hy:∀ j u,(ys.map fun v:Nat=>Value.int .u32 v)[j]?=some u→W.cell? ⟨g,j,none⟩=some u)
  (hl:xs.length+ys.length≤1000000)(hb:base≤W.heap.size)
  (h:∀ v' W1,E6 W1 base v' (xs++ys)→W.grownBy W1 v.ownBlock→K (a.put o.dst v') W1) :
  if Region.wanted o (yielded ops a.tmps)=true then Oper.wp Tryz.prog o a W K Q else E:=by
 rw[if_pos (by simp[Region.wanted,hgd])];obtain⟨i9,hi,hz0,hz1,hz2⟩:=info_parts Un;obtain⟨v',w',hr',h2,h3,h4,h5⟩:=run_append_own_at (P:=Tryz.prog) W base 28 o.type 22 i9 (.int .u32 0) 1 4 Tryz.underlying28 hi hz0 hz1 hz2 rfl (by decide) v xs.length (xs.map fun x:Nat=>Value.int .u32 x) hr ⟨g,0,none⟩ ys.length c (ys.map fun x:Nat=>Value.int .u32 x) (by simp)
  (fun j u hj=>by rw[add_plain];exact hy j u hj) (by intro u hu;simp at hu;obtain⟨x,_,rfl⟩:=hu;rfl) (by simp[maxLen];omega) (by omega) hb
 unfold Oper.wp execOp;simp only[ho,resolve,invoke,builtin,Sem.run_bind,Sem.run_pure,Result.andThen_ok,List.map_toArray,List.map_cons,List.map_nil,hs,hx,hr'];refine h _ _ ?_ h3;unfold E6;rw[List.map_append,List.length_append];exact h2
theorem Up(hgd:o.guard=none)(x:Operand)(ho:o.op=.buildSlice 78 1 #[(0,x)])(r7:Nat)(hx:a.eval x=.agg #[.int .i64 0,.int .i64 0,.int .i64 0,.int .i64 0,.int .i64 0,.int .i64 0,.int .i64 0,.int .i64 (r7:Int),.int .i64 0])
  (h:∀ g W1,Below W.heap.size W W1→W1.heap[g]?=some (.cells #[.int .i64 0,.int .i64 0,.int .i64 0,.int .i64 0,.int .i64 0,.int .i64 0,.int .i64 0,.int .i64 (r7:Int),.int .i64 0] 133 (0,0))→K (a.put o.dst (.slice (some ⟨g,0,none⟩) 1 1)) W1) :
  if Region.wanted o (yielded ops a.tmps)=true then Oper.wp Tryz.prog o a W K Q else E:=by
 rw[if_pos (by simp[Region.wanted,hgd])];obtain⟨i9,hi,hz0,hz1,hz2⟩:=info_parts MR;refine wp_buildSlice 78 133 1 _ ho #[.int .i64 0,.int .i64 0,.int .i64 0,.int .i64 0,.int .i64 0,.int .i64 0,.int .i64 0,.int .i64 (r7:Int),.int .i64 0] i9 (.agg Ld) Tryz.underlying78 hi hz0 (by rw[hz1];decide) (by rw[hz1];decide) ?_ (h _ _ (Bw W _) (Bv _ _));rw[hz1];simp only[List.map_toArray,List.map_cons,List.map_nil,hx]
 kernel_rfl
theorem Uq(hgd:o.guard=none)(s x:Operand)(ho:o.op=.call {callee:=.builtin .append,args:=#[s,x],argTypes:=#[78,78]})
  (base g r7:Nat)(v:Value)(xs:List CoreM)(hs:a.eval s=v)(hr:EL W base v xs)(hx:a.eval x=.slice (some ⟨g,0,none⟩) 1 1)
  (hy:W.heap[g]?=some (.cells #[.int .i64 0,.int .i64 0,.int .i64 0,.int .i64 0,.int .i64 0,.int .i64 0,.int .i64 0,.int .i64 (r7:Int),.int .i64 0] 133 (0,0)))(hl:xs.length≤1000000)(hb:base≤W.heap.size)
  (h:∀ v' W1,EL W1 base v' (xs++[⟨[0,0,0,0,0,0,0,r7],0⟩])→W.grownBy W1 v.ownBlock→K (a.put o.dst v') W1) :
  if Region.wanted o (yielded ops a.tmps)=true then Oper.wp Tryz.prog o a W K Q else E:=by
 obtain⟨i9,hi,hz0,hz1,hz2⟩:=info_parts MR;refine Gh hgd s x 78 ho base 133 i9 (.agg Ld) 9 72 Tryz.underlying78 hi hz0 hz1 hz2 rfl (by decide) v xs.length (Cx xs) hs hr g _ (0,0) hx hy rfl ?_ hl (by decide) hb ?_
 ·intro u hu;simp at hu;rcases hu with rfl |rfl |rfl |rfl |rfl |rfl |rfl |rfl |rfl<;>rfl
 ·intro v' W1 h1 h2 h4;refine h v' W1 ?_ h2;unfold EL;rw[GY,List.length_append];exact h1
end
structure SI (w W:World) (px:Nat) (vl vc vw vr:Value) (pl:Option Addr) (pg:Pg) (cells:List (Nat×Nat)) (words:List Nat) (AP:List CoreM):Prop where
 b:Below w.heap.size w W
 Ms:w.heap.size≤px
 bx:W.heap[px]?=some (.cells #[vl,.int .i64 pg.lock,.int .i64 pg.unlock,vc,vw,.pointer pl,vr,.int .i64 0] 80 (0,0))
 cells:Dn W w.heap.size vc cells
 words:E6 W w.heap.size vw words
 AP:EL W w.heap.size vr AP
theorem SI.hz{w W:World}{px:Nat}{vl vc vw vr:Value}{pl:Option Addr}{pg:Pg}{cells:List (Nat×Nat)}{words:List Nat}{AP:List CoreM}(h:SI w W px vl vc vw vr pl pg cells words AP):w.heap.size≤W.heap.size:=h.b.size
theorem SI.keep{w W W1:World}{px:Nat}{vl vc vw vr:Value}{pl:Option Addr}{pg:Pg}{cells:List (Nat×Nat)}{words:List Nat}{AP:List CoreM}(h:SI w W px vl vc vw vr pl pg cells words AP)(hb:Below W.heap.size W W1):SI w W1 px vl vc vw vr pl pg cells words AP :=
 ⟨h.b.trans (hb.mono h.hz),h.Ms,Bk hb h.bx,Om h.cells (fun k hk=>hb.block k (Ol h.cells k hk)),Om h.words (fun k hk=>hb.block k (Ol h.words k hk)),Om h.AP (fun k hk=>hb.block k (Ol h.AP k hk))⟩
theorem SI.Sz{w W W1:World}{px:Nat}{vl vc vw vr v:Value}{pl:Option Addr}{pg:Pg}{cells:List (Nat×Nat)}{words words':List Nat}{AP:List CoreM}(h:SI w W px vl vc vw vr pl pg cells words AP)(hr:E6 W1 w.heap.size v words')(hg:W.grownBy W1 vw.ownBlock) :
  SI w (W1.setCell ⟨px,4,none⟩ v) px vl vc v vr pl pg cells words' AP:=by
 have hb:=h.b.grown hg h.hz (fun k hk=>Ob h.words k hk);have hx:=Bg h.bx hg (Oa h.words h.bx (by decide));have h1:Dn W1 w.heap.size vc cells:=Cl h.cells h.words (by decide) hg;have h2:EL W1 w.heap.size vr AP:=Cl h.AP h.words (by decide) hg;exact⟨hb.setCell (p:=⟨px,4,none⟩) h.Ms v,h.Ms,Bs hx 4 v,Rs h1 hx (by decide) 4 v,Rs hr hx (by decide) 4 v,Rs h2 hx (by decide) 4 v⟩
theorem SI.Ny{w W W1:World}{px:Nat}{vl vc vw vr v:Value}{pl:Option Addr}{pg:Pg}{cells:List (Nat×Nat)}{words:List Nat}{AP cores':List CoreM}(h:SI w W px vl vc vw vr pl pg cells words AP)(hr:EL W1 w.heap.size v cores')(hg:W.grownBy W1 vr.ownBlock) :
  SI w (W1.setCell ⟨px,6,none⟩ v) px vl vc vw v pl pg cells words cores':=by
 have hb:=h.b.grown hg h.hz (fun k hk=>Ob h.AP k hk);have hx:=Bg h.bx hg (Oa h.AP h.bx (by decide));have h1:Dn W1 w.heap.size vc cells:=Cl h.cells h.AP (by decide) hg;have h2:E6 W1 w.heap.size vw words:=Cl h.words h.AP (by decide) hg;exact⟨hb.setCell (p:=⟨px,6,none⟩) h.Ms v,h.Ms,Bs hx 6 v,Rs h1 hx (by decide) 6 v,Rs h2 hx (by decide) 6 v,Rs hr hx (by decide) 6 v⟩
theorem OX(W:World)(vl vs vi vr:Value)(pg:Pg)(ss is rs:List Nat)(n:Nat)(hl:Cg W vl pg.l.length (By pg.l))(hs:Cg W vs ss.length (ss.map fun s:Nat=>Value.int .i64 (s:Int)))
  (hi:Cg W vi is.length (is.map fun v:Nat=>Value.int .u32 v))(hr:Cg W vr rs.length (rs.map fun v:Nat=>Value.int .u32 v))(h8:ss.length≤8)(hle:∀ s∈ss,s≤4096)(DD:ss.sum≤8192)
  (h1:1≤n)(h2:n≤64)(OM:0<is.length)(hi1:is.length≤100000)(hr1:rs.length≤1000)(R3:∀ v∈is,v<4294967296)(Uj:∀ v∈rs,v<4294967296) :
  Calls Tryz.prog 66 #[.agg #[vl,.int .i64 pg.lock,.int .i64 pg.unlock,vs,vi,.int .i64 0,vr],.int .i64 (n:Int)] W fun e W'=>∃ px vc vw vo pl,e=.returned (.pointer (some ⟨px,0,none⟩))∧Dp W W' px vl vc vw vo pl (AG.new pg ss is n 0 rs):=by
 have hb0:=Bw W (.cells #[vl,.int .i64 pg.lock,.int .i64 pg.unlock,vs,vi,.int .i64 0,vr] 30);have hC:=Az (JR _ vs ss (hs.keep hb0) h8 hle DD);have hN:=Bv W (.cells #[vl,.int .i64 pg.lock,.int .i64 pg.unlock,vs,vi,.int .i64 0,vr] 30);have hP:=Az (fun W=>OY W n h1 h2);obtain⟨gi,ci,rfl,hic⟩:=hi.cells OM;obtain⟨Ar,cr,rfl⟩:=hr.slice;obtain⟨As,cs,rfl⟩:=hs.slice;obtain⟨Al,cl,rfl⟩:=hl.slice;have hsz0:W.heap.size<(W.alloc (.cells #[.slice Al pg.l.length cl,.int .i64 pg.lock,.int .i64 pg.unlock,.slice As ss.length cs,.slice (some ⟨gi,0,none⟩) is.length ci,.int .i64 0,.slice Ar rs.length cr] 30)).heap.size:=by simp
 obtain⟨W1,hW1⟩:∃ X,W.alloc (.cells #[.slice Al pg.l.length cl,.int .i64 pg.lock,.int .i64 pg.unlock,.slice As ss.length cs,.slice (some ⟨gi,0,none⟩) is.length ci,.int .i64 0,.slice Ar rs.length cr] 30)=X:=⟨_,rfl⟩
 rw[hW1]at hb0 hC hN hsz0;obtain⟨fin,hfin⟩:∃ x,AG.new pg ss is n 0 rs=x:=⟨_,rfl⟩
 obtain⟨cells,hcells⟩:∃ x,AL ss=x:=⟨_,rfl⟩
 obtain⟨ml,hml⟩:∃ x,pg.l.length=x:=⟨_,rfl⟩
 obtain⟨ms,hms⟩:∃ x,ss.length=x:=⟨_,rfl⟩
 obtain⟨mi,hmi⟩:∃ x,is.length=x:=⟨_,rfl⟩
 obtain⟨mr,hmr⟩:∃ x,rs.length=x:=⟨_,rfl⟩
 rw[hfin,hml,hms,hmi,hmr];rw[hml,hms,hmi,hmr]at hW1 hN;rw[hms,hcells]at hC;rw[hmi]at OM hi1;rw[hmr]at hr1;replace hl:=Az hl;replace hr:=Az hr;replace hic:=Az hic;replace hb0:=Az hb0;replace hfin:=Az hfin;replace hml:=Az hml;replace hmi:=Az hmi;replace hmr:=Az hmr;replace hcells:=Az hcells;have n3:W1.cell? ⟨W.heap.size,3,none⟩=some (.slice As ms cs):=(Bc hN 3).trans rfl;replace hN:=Az hN;replace R3:=Az R3;replace Uj:=Az Uj;clear hs hi h8 hle DD hms;go_enter Tryz.func66,Tryz.ntmps66;go_wp2_with fail
 try rw[hW1]
 clear hW1;refine hC.out.mono ?_;rintro e w2 ⟨vc,rfl,hcl,hb2⟩;replace hN:=Az (Bk hb2 hN.out);obtain⟨Ac,nc,cc,rfl⟩:=AB hcl;replace hcl:Dn w2 W.heap.size _ cells:=Gi hcl (by omega);replace hb0:=Az (hb0.out.trans (hb2.mono (by omega)));replace hcl:=Az hcl;clear hC hb2 n3;go_upto_region 2 with fail
 have hS5:(fun W'=>W'.cell? ⟨W.heap.size,0,none⟩=some (.slice Al ml cl)∧W'.cell? ⟨W.heap.size,1,none⟩=some (.int .i64 pg.lock)∧W'.cell? ⟨W.heap.size,2,none⟩=some (.int .i64 pg.unlock)∧W'.cell? ⟨W.heap.size,5,none⟩=some (.int .i64 0)) w2.drew:=⟨(Bc (Be hN.out) 0).trans rfl,(Bc (Be hN.out) 1).trans rfl,(Bc (Be hN.out) 2).trans rfl,(Bc (Be hN.out) 5).trans rfl⟩
 refine Aw [] (S:=fun W'=>W'.cell? ⟨W.heap.size,0,none⟩=some (.slice Al ml cl)∧W'.cell? ⟨W.heap.size,1,none⟩=some (.int .i64 pg.lock)∧W'.cell? ⟨W.heap.size,2,none⟩=some (.int .i64 pg.unlock)∧W'.cell? ⟨W.heap.size,5,none⟩=some (.int .i64 0)) (by kernel_rfl) hS5 (fun hS0=>?_);clear hS5;try simp only[Act.put,Sa,Sb,Sc]
 refine tY 0 (fun _=>hS0) ?_;refine tL 1 (hS0) ?_;refine tY 2 (fun _=>hS0) ?_;refine tY 3 (fun _=>hS0) ?_;refine tY 4 (fun _=>hS0) ?_;refine tL 5 (hS0) ?_;refine Ab (rs:=[6]) (by kernel_rfl) (by simp) ?_;refine Aa.cons (An rfl) (fun K hK=>?_) Aa.nil;go_simp
 go_at_call 82
 refine(hP.out _).mono ?_;rintro e w3 ⟨gp,rfl,hb3⟩;have hbd:=(Bd (Below.refl _ w2)).trans hb3;replace hS0:w3.cell? ⟨W.heap.size,0,none⟩=some (.slice Al ml cl)∧w3.cell? ⟨W.heap.size,1,none⟩=some (.int .i64 pg.lock)∧w3.cell? ⟨W.heap.size,2,none⟩=some (.int .i64 pg.unlock)∧w3.cell? ⟨W.heap.size,5,none⟩=some (.int .i64 0):=⟨Ck hb3 hS0.1,Ck hb3 hS0.2.1,Ck hb3 hS0.2.2.1,Ck hb3 hS0.2.2.2⟩
 replace hN:=Az (Bk hbd hN.out);replace hcl:=Az (show Dn w3 W.heap.size _ cells from Om hcl.out (fun k hk=>hbd.block k (Ol hcl.out k hk)));replace hb0:=Az (hb0.out.trans (hbd.mono hb0.out.size));clear hP hb3 hbd;go_wp2_with fail
 refine hK.out _ _ (fun _=>hS0) (fun _=>?_);clear hK;try simp only[Act.put,Sa,Sb,Sc]
 refine tY 7 (fun _=>hS0) ?_;refine Ab (rs:=[8]) (by kernel_rfl) (by simp) ?_;refine Aa.cons (An rfl) (fun K hK=>?_) Aa.nil;have hbx:=Bw w3 (.cells #[.slice Al ml cl,.int .i64 pg.lock,.int .i64 pg.unlock,.slice Ac nc cc,.slice none 0 0,.pointer (some ⟨gp,0,none⟩),.slice none 0 0,.int .i64 0] 80);have hI:SI W (w3.alloc (.cells #[.slice Al ml cl,.int .i64 pg.lock,.int .i64 pg.unlock,.slice Ac nc cc,.slice none 0 0,.pointer (some ⟨gp,0,none⟩),.slice none 0 0,.int .i64 0] 80)) w3.heap.size (.slice Al ml cl) (.slice Ac nc cc) (.slice none 0 0) (.slice none 0 0) (some ⟨gp,0,none⟩) pg cells [] [] :=
  ⟨hb0.out.trans (hbx.mono hb0.out.size),hb0.out.size,Bv _ _,Om hcl.out (fun k hk=>hbx.block k (Ol hcl.out k hk)),⟨rfl,.inl ⟨rfl,rfl⟩⟩,⟨rfl,.inl ⟨rfl,rfl⟩⟩⟩
 replace hI:=Az hI;replace hN:=Az (Bk hbx hN.out);have hS1:(w3.alloc (.cells #[.slice Al ml cl,.int .i64 pg.lock,.int .i64 pg.unlock,.slice Ac nc cc,.slice none 0 0,.pointer (some ⟨gp,0,none⟩),.slice none 0 0,.int .i64 0] 80)).cell? ⟨W.heap.size,0,none⟩=some (.slice Al ml cl)∧(w3.alloc (.cells #[.slice Al ml cl,.int .i64 pg.lock,.int .i64 pg.unlock,.slice Ac nc cc,.slice none 0 0,.pointer (some ⟨gp,0,none⟩),.slice none 0 0,.int .i64 0] 80)).cell? ⟨W.heap.size,1,none⟩=some (.int .i64 pg.lock)∧(w3.alloc (.cells #[.slice Al ml cl,.int .i64 pg.lock,.int .i64 pg.unlock,.slice Ac nc cc,.slice none 0 0,.pointer (some ⟨gp,0,none⟩),.slice none 0 0,.int .i64 0] 80)).cell? ⟨W.heap.size,2,none⟩=some (.int .i64 pg.unlock)∧(w3.alloc (.cells #[.slice Al ml cl,.int .i64 pg.lock,.int .i64 pg.unlock,.slice Ac nc cc,.slice none 0 0,.pointer (some ⟨gp,0,none⟩),.slice none 0 0,.int .i64 0] 80)).cell? ⟨W.heap.size,5,none⟩=some (.int .i64 0):=⟨Ck hbx hS0.1,Ck hbx hS0.2.1,Ck hbx hS0.2.2.1,Ck hbx hS0.2.2.2⟩
 replace hS1:=Az hS1;obtain⟨w4,hw4⟩:∃ X,w3.alloc (.cells #[.slice Al ml cl,.int .i64 pg.lock,.int .i64 pg.unlock,.slice Ac nc cc,.slice none 0 0,.pointer (some ⟨gp,0,none⟩),.slice none 0 0,.int .i64 0] 80)=X:=⟨_,rfl⟩
 rw[hw4]at hI hN hS1;obtain⟨px,Ms⟩:∃ x,w3.heap.size=x:=⟨_,rfl⟩
 rw[Ms]at hI;clear hbx hb0 hcl hS0;go_simp
 go_wp2_with fail
 try rw[hw4]
 try rw[Ms]
 refine hK.out _ _ (fun _=>hS1.out) (fun _=>?_);clear hK hw4 Ms;try simp only[Act.put,Sa,Sb,Sc]
 refine tY 9 (fun _=>hS1.out) ?_;refine A4 (by kernel_rfl) ?_ _;clear hS1;go_upto_region 3 with fail
 have hI5:=hI.out.keep (Bd (Below.refl _ w4));have hS5:(fun W'=>W'.cell? ⟨px,4,none⟩=some (.slice none 0 0)∧W'.cell? ⟨W.heap.size,4,none⟩=some (.slice (some ⟨gi,0,none⟩) mi ci)) w4.drew:=⟨(Bc hI5.bx 4).trans rfl,(Bc (Be hN.out) 4).trans rfl⟩
 replace hI:=Az hI5;replace hN:=Az (Be hN.out);clear hI5;refine Aw [10] (S:=fun W'=>W'.cell? ⟨px,4,none⟩=some (.slice none 0 0)∧W'.cell? ⟨W.heap.size,4,none⟩=some (.slice (some ⟨gi,0,none⟩) mi ci)) (by kernel_rfl) hS5 (fun hS0=>?_);clear hS5;generalize w4.drew=w4 at *;try simp only[Act.put,Sa,Sb,Sc]
 refine tY 0 (fun _=>hS0) ?_;refine tY 1 (fun _=>hS0) ?_;refine tY 2 (fun _=>hS0) ?_;refine tY 3 (fun _=>hS0) ?_;refine tL 4 (hS0) ?_;refine tY 5 (fun _=>hS0) ?_;refine tL 6 (hS0) ?_;refine Ab (rs:=[7]) (by kernel_rfl) (by simp) ?_;refine Aa.cons (An rfl) (fun K hK=>?_) Aa.nil;refine Uo rfl (.tmp 30) (.tmp 32) rfl W.heap.size gi ci _ [] is rfl hI.out.words (by rw[hmi.out];rfl) (fun j u hj=>Ck hI.out.b (hic.out j u hj)) (by simp;rw[hmi.out];omega) hI.out.hz (fun v5 w5 hr5 hg5=>?_);have hx5:=Bg hI.out.bx hg5 (Oa hI.out.words hI.out.bx (by decide));have hN5:=Bg hN.out hg5 (Oa hI.out.words hN.out (by decide));have hI6:=hI.out.Sz (v:=v5) hr5 hg5;obtain⟨A5,n5,c5,rfl⟩:=AB hr5;have f5:=Bf hx5 4;have e5:w5.cell? ⟨px,4,none⟩=some (.slice none 0 0):=(Bc hx5 4).trans rfl;have z5:=Bl hx5;replace hS0:(fun W'=>W'.cell? ⟨px,4,none⟩=some (.slice none 0 0)∧W'.cell? ⟨W.heap.size,4,none⟩=some (.slice (some ⟨gi,0,none⟩) mi ci)) w5:=⟨e5,(Bc hN5 4).trans rfl⟩
 have hne:W.heap.size≠px:=CU hN5 hx5 (by decide);have hN6:=Az (Ba (p:=⟨px,4,none⟩) hN5 hne (.slice A5 n5 c5));replace hI6:=Az hI6;refine hK.out _ _ (fun _=>hS0) (fun _=>?_);clear hK hr5 hg5 hx5 hN5 hI hN hic;try simp only[Act.put,Sa,Sb,Sc]
 refine tY 8 (fun _=>hS0) ?_;refine tY 9 (fun _=>hS0) ?_;clear hS0;obtain⟨w6,hw6⟩:∃ X,w5.setCell ⟨px,4,none⟩ (.slice A5 n5 c5)=X:=⟨_,rfl⟩
 rw[hw6]at hI6 hN6;refine Ab (rs:=[10]) (by kernel_rfl) (by simp) ?_;refine Aa.cons (An rfl) (fun K hK=>?_) Aa.nil;go_simp
 go_wp2_with fail
 refine hK.out _ _ (fun h=>by cases h) (fun _=>?_);try rw[hw6]
 clear hK hw6 f5 e5 z5 hne;try simp only[Act.put,Sa,Sb,Sc]
 refine A4 (by kernel_rfl) ?_ _;have n6:w6.cell? ⟨W.heap.size,6,none⟩=some (.slice Ar mr cr):=(Bc hN6.out 6).trans rfl;clear hN6;go_wp2_with fail
 go_loopw [39] (fun v39 wr=>∃ (k:Nat) (vo:Value),v39=.int .i64 (k:Int)∧k≤mr∧Af (SI W wr px (.slice Al ml cl) (.slice Ac nc cc) (.slice A5 n5 c5) vo (some ⟨gp,0,none⟩) pg cells ([]++is) ((rs.take k).map fun v=>⟨[0,0,0,0,0,0,0,v],0⟩))) (fun v39 _=>mr-(intOf v39).toNat)
 case atStart=>exact⟨0,_,rfl,Nat.zero_le _,hI6⟩
 case round =>
  obtain⟨k,vo,rfl,hk,hI⟩:=hrel;clear hI6 n6;by_cases hlt:k<mr
  ·have hkl:k<rs.length:=by rw[hmr.out];exact hlt
   have hrr:=hr.out.keep hI.out.b;rw[hmr.out]at hrr;obtain⟨gr,cr',hvr,hrc⟩:=hrr.cells (by omega);cases hvr;have rk:=hrc k (.int .u32 ((rs.getD k 0:Nat):Int)) (by simp[hkl,List.getD_eq_getElem?_getD]);have hsn:rs.take (k+1)=rs.take k++[rs.getD k 0]:=by
    rw[List.take_succ_eq_append_getElem hkl,List.getD_eq_getElem?_getD,List.getElem?_eq_getElem hkl];rfl
   have hv:rs.getD k 0<4294967296:=Uj.out _ (by rw[List.getD_eq_getElem?_getD,List.getElem?_eq_getElem hkl];exact List.getElem_mem _);generalize rs.getD k 0=v at rk hsn hv;have k0:(0:Int)≤(k:Int):=by omega
   have k1:(k:Int)<(mr:Int):=by omega
   have kw:IntKind.i64.wrap ((k:Int)+1)=(k:Int)+1:=by rw[IntKind.wrap_i64];omega
   have vw:IntKind.i64.wrap (v:Int)=(v:Int):=by rw[IntKind.wrap_i64];omega
   have hbn:=Bw wr (.cells #[.int .i64 0,.int .i64 0,.int .i64 0,.int .i64 0,.int .i64 0,.int .i64 0,.int .i64 0,.int .i64 (v:Int),.int .i64 0] 133);have hI2:=Az (hI.out.keep hbn);have hnb:=Az (Bv wr (.cells #[.int .i64 0,.int .i64 0,.int .i64 0,.int .i64 0,.int .i64 0,.int .i64 0,.int .i64 0,.int .i64 (v:Int),.int .i64 0] 133));replace hsn:=Az hsn;clear hrr hrc hbn hI hv;go_upto_region 9 with fail
   obtain⟨gx,hgx⟩:∃ x,wr.heap.size=x:=⟨_,rfl⟩
   rw[hgx]at hnb;try rw[hgx]
   obtain⟨w7,hw7⟩:∃ X,wr.alloc (.cells #[.int .i64 0,.int .i64 0,.int .i64 0,.int .i64 0,.int .i64 0,.int .i64 0,.int .i64 0,.int .i64 (v:Int),.int .i64 0] 133)=X:=⟨_,rfl⟩
   rw[hw7]at hI2 hnb;try rw[hw7]
   clear hw7 hgx rk;have hI3:=hI2.out.keep (Bd (Below.refl _ w7));have hS5:(fun W'=>W'.cell? ⟨px,6,none⟩=some vo∧W'.cell? ⟨gx,0,none⟩=some (.int .i64 0)∧W'.cell? ⟨gx,1,none⟩=some (.int .i64 0)∧W'.cell? ⟨gx,2,none⟩=some (.int .i64 0)∧W'.cell? ⟨gx,3,none⟩=some (.int .i64 0)∧W'.cell? ⟨gx,4,none⟩=some (.int .i64 0)∧W'.cell? ⟨gx,5,none⟩=some (.int .i64 0)∧W'.cell? ⟨gx,6,none⟩=some (.int .i64 0)∧W'.cell? ⟨gx,7,none⟩=some (.int .i64 (v:Int))∧W'.cell? ⟨gx,8,none⟩=some (.int .i64 0)) w7.drew:=⟨(Bc hI3.bx 6).trans rfl,(Bc (Be hnb.out) 0).trans rfl,(Bc (Be hnb.out) 1).trans rfl,(Bc (Be hnb.out) 2).trans rfl,(Bc (Be hnb.out) 3).trans rfl,(Bc (Be hnb.out) 4).trans rfl,(Bc (Be hnb.out) 5).trans rfl,(Bc (Be hnb.out) 6).trans rfl,(Bc (Be hnb.out) 7).trans rfl,(Bc (Be hnb.out) 8).trans rfl⟩
   refine Aw [7,10] (S:=fun W'=>W'.cell? ⟨px,6,none⟩=some vo∧W'.cell? ⟨gx,0,none⟩=some (.int .i64 0)∧W'.cell? ⟨gx,1,none⟩=some (.int .i64 0)∧W'.cell? ⟨gx,2,none⟩=some (.int .i64 0)∧W'.cell? ⟨gx,3,none⟩=some (.int .i64 0)∧W'.cell? ⟨gx,4,none⟩=some (.int .i64 0)∧W'.cell? ⟨gx,5,none⟩=some (.int .i64 0)∧W'.cell? ⟨gx,6,none⟩=some (.int .i64 0)∧W'.cell? ⟨gx,7,none⟩=some (.int .i64 (v:Int))∧W'.cell? ⟨gx,8,none⟩=some (.int .i64 0)) (by kernel_rfl) hS5 (fun hS0=>?_);replace hI2:=Az hI3;clear hS5 hI3 hnb;generalize w7.drew=w7 at *;try simp only[Act.put,Sa,Sb,Sc]
   refine tY 0 (fun _=>hS0) ?_;refine tY 1 (fun _=>hS0) ?_;refine tY 2 (fun _=>hS0) ?_;refine tY 3 (fun _=>hS0) ?_;refine tL 4 (hS0) ?_;refine tL 5 (hS0) ?_;refine Ab (rs:=[6]) (by kernel_rfl) (by simp) ?_;refine Aa.cons (An rfl) (fun K hK=>?_) Aa.nil;refine Up rfl (.tmp 52) rfl v rfl (fun g8 w8 hb8 hy8=>?_);replace hI2:=Az (hI2.out.keep hb8);replace hS0:(fun W'=>W'.cell? ⟨px,6,none⟩=some vo∧W'.cell? ⟨gx,0,none⟩=some (.int .i64 0)∧W'.cell? ⟨gx,1,none⟩=some (.int .i64 0)∧W'.cell? ⟨gx,2,none⟩=some (.int .i64 0)∧W'.cell? ⟨gx,3,none⟩=some (.int .i64 0)∧W'.cell? ⟨gx,4,none⟩=some (.int .i64 0)∧W'.cell? ⟨gx,5,none⟩=some (.int .i64 0)∧W'.cell? ⟨gx,6,none⟩=some (.int .i64 0)∧W'.cell? ⟨gx,7,none⟩=some (.int .i64 (v:Int))∧W'.cell? ⟨gx,8,none⟩=some (.int .i64 0)) w8:=⟨Ck hb8 hS0.1,Ck hb8 hS0.2.1,Ck hb8 hS0.2.2.1,Ck hb8 hS0.2.2.2.1,Ck hb8 hS0.2.2.2.2.1,Ck hb8 hS0.2.2.2.2.2.1,Ck hb8 hS0.2.2.2.2.2.2.1,Ck hb8 hS0.2.2.2.2.2.2.2.1,Ck hb8 hS0.2.2.2.2.2.2.2.2.1,Ck hb8 hS0.2.2.2.2.2.2.2.2.2⟩
   refine hK.out _ _ (fun _=>hS0) (fun _=>?_);clear hK hb8;try simp only[Act.put,Sa,Sb,Sc]
   refine Ab (rs:=[7]) (by kernel_rfl) (by simp) ?_;refine Aa.cons (An rfl) (fun K hK=>?_) Aa.nil;refine Uq rfl (.tmp 51) (.tmp 53) rfl W.heap.size g8 v _ _ rfl hI2.out.AP rfl hy8 (by rw[List.length_map,List.length_take];omega) hI2.out.hz (fun v9 w9 hr9 hg9=>?_);have hx9:=Bg hI2.out.bx hg9 (Oa hI2.out.AP hI2.out.bx (by decide));have hI9:=hI2.out.Ny (v:=v9) hr9 hg9;rw[show(rs.take k).map (fun v=>(⟨[0,0,0,0,0,0,0,v],0⟩:CoreM))++[⟨[0,0,0,0,0,0,0,v],0⟩]=(rs.take (k+1)).map (fun v=>(⟨[0,0,0,0,0,0,0,v],0⟩:CoreM)) by rw[hsn.out,List.map_append];rfl]at hI9;obtain⟨A9,n9,c9,rfl⟩:=AB hr9;have f9:=Bf hx9 6;have e9:w9.cell? ⟨px,6,none⟩=some vo:=(Bc hx9 6).trans rfl;have z9:=Bl hx9;replace hI9:=Az hI9;refine hK.out _ _ (fun h=>by cases h) (fun _=>?_);clear hK hS0 hr9 hg9 hx9 hI2 hy8 hsn;try simp only[Act.put,Sa,Sb,Sc]
   refine tY 8 (fun h=>by cases h) ?_;refine tY 9 (fun h=>by cases h) ?_;obtain⟨w10,hw10⟩:∃ X,w9.setCell ⟨px,6,none⟩ (.slice A9 n9 c9)=X:=⟨_,rfl⟩
   rw[hw10]at hI9;refine Ab (rs:=[10]) (by kernel_rfl) (by simp) ?_;refine Aa.cons (An rfl) (fun K hK=>?_) Aa.nil;go_simp
   go_wp2_with fail
   refine hK.out _ _ (fun h=>by cases h) (fun _=>?_);try rw[hw10]
   clear hK hw10 f9 e9 z9;try simp only[Act.put,Sa,Sb,Sc]
   refine A4 (by kernel_rfl) ?_ _;go_wp2;go_roundw
   case rel=>exact⟨k+1,_,by go_num,hlt,hI9⟩
   case measure=>simp[intOf];omega
  ·obtain rfl:k=mr:=by omega
   have n1:¬(k:Int)<(k:Int):=by omega
   have hE:Dp W wr px (.slice Al ml cl) (.slice Ac nc cc) (.slice A5 n5 c5) vo (some ⟨gp,0,none⟩) fin:=by
    have hI':=hI.out;rw[←hmr.out,List.take_length,List.nil_append]at hI';have hl':=hl.out;rw[←hfin.out];rw[←hcells.out]at hI';refine⟨hI'.b,hI'.Ms,⟨0,hI'.bx⟩,?_,hI'.cells,hI'.words,hI'.AP,fun c hc=>?_,fun v hv=>R3.out v hv⟩
    ·rw[←hml.out];exact hl'
    ·obtain⟨v,hv,rfl⟩:=List.mem_map.1 hc;have:=Uj.out v hv;refine⟨rfl,fun j=>?_⟩;rcases j with _ |_ |_ |_ |_ |_ |_ |_ |j
     all_goals first |exact this |exact(by decide:(0:Nat)<4294967296)
   replace hE:=Az hE;clear hI;go_wp2;go_ret;first |exact⟨_,rfl,_,_,_,_,hE.out⟩ |exact⟨_,_,_,_,_,rfl,hE.out⟩ |exact⟨_,_,_,rfl,_,_,hE.out⟩ |exact⟨_,_,_,_,hE.out⟩ |exact⟨_,_,_,_,_,hE.out⟩ |exact⟨_,_,_,hE.out⟩
structure WA (pg:Pg):Prop where
 l0:0<pg.l.length
 l1:pg.l.length≤64
 a0:0≤pg.lock
 a1:pg.lock<pg.l.length
 b0:0≤pg.unlock
 b1:pg.unlock<pg.l.length
 wk:∀ i∈pg.l,i.wk
 ok:∀ i∈pg.l,AN i pg.l.length=true
theorem O9(W:World)(vl:Value)(pg:Pg)(hl:Cg W vl pg.l.length (By pg.l))(hp:WA pg) :
  Calls Tryz.prog 43 #[.agg #[vl,.int .i64 pg.lock,.int .i64 pg.unlock]] W fun e W'=>e=.returned (.bool true)∧Below W.heap.size W W':=by
 obtain⟨gl,cl,rfl,hc0⟩:=hl.cells hp.l0;obtain⟨m,hm⟩:∃ m,pg.l.length=m:=⟨_,rfl⟩
 obtain⟨lk,hlk⟩:∃ m,pg.lock=m:=⟨_,rfl⟩
 obtain⟨ul,hul⟩:∃ m,pg.unlock=m:=⟨_,rfl⟩
 have m0:=hp.l0;have m1:=hp.l1;have a0:=hp.a0;have a1:=hp.a1;have b0:=hp.b0;have b1:=hp.b1;rw[hm]at m0 m1 a1 b1 ⊢;rw[hlk]at a0 a1 ⊢;rw[hul]at b0 b1 ⊢;have i1:¬(m:Int)<1:=by omega
 have i2:¬(64:Int)<(m:Int):=by omega
 have i3:¬lk<0:=by omega
 have i4:¬ul<0:=by omega
 have i5:¬(m:Int)≤lk:=by omega
 have i6:¬(m:Int)≤ul:=by omega
 clear a0 a1 b0 b1 hlk hul;have hb0:=Az (Bw W (.cells #[.slice (some ⟨gl,0,none⟩) m cl,.int .i64 lk,.int .i64 ul] 26));replace hc0:=Az hc0;replace hm:=Az hm;replace hp:=Az hp;clear hl;go_enter Tryz.func43,Tryz.ntmps43;go_wp2_with fail
 go_loopw [40] (fun v40 wr=>∃ (k:Nat),v40=.int .i64 (k:Int)∧k≤m∧Af (Below W.heap.size W wr)) (fun v40 _=>m-(intOf v40).toNat)
 case atStart=>exact⟨0,rfl,Nat.zero_le _,hb0⟩
 case round =>
  obtain⟨k,rfl,hk,hB⟩:=hrel;clear hb0 i1 i2 i3 i4 i5 i6;by_cases hlt:k<m
  ·have hkx:k<pg.l.length:=by rw[hm.out];exact hlt
   have hmem:pg.l.getD k In.zero∈pg.l:=by rw[List.getD_eq_getElem?_getD,List.getElem?_eq_getElem hkx];exact List.getElem_mem _
   have hwk:=hp.out.wk _ hmem;have hok:=hp.out.ok _ hmem;rw[hm.out]at hok;obtain⟨⟨op,d,s,t,u,a,kk,q⟩,hi⟩:∃ i,pg.l.getD k In.zero=i:=⟨_,rfl⟩
   rw[hi]at hwk hok;obtain⟨a0,a1,a2,a3,a4,a5,a6,a7⟩:=FI (fun j u hj=>Ck hB.out (hc0.out j u hj)) hkx hi;have k0:(0:Int)≤(k:Int):=by omega
   have k1:(k:Int)<(m:Int):=by omega
   have kw:IntKind.i64.wrap ((k:Int)+1)=(k:Int)+1:=by rw[IntKind.wrap_i64];omega
   have R6:=fun W=>Ht ⟨op,d,s,t,u,a,kk,q⟩ (m:Int) hwk W
   rw[hok]at R6;dsimp only[In.v]at R6;replace R6:=Az R6;have hE:=Az (hB.out.trans ((Bw wr (.cells #[.int .i64 op,.int .i64 d,.int .i64 s,.int .i64 t,.int .i64 u,.int .i64 a,.int .u32 kk,.int .i64 q] 90)).mono hB.out.size));clear hi hkx hmem hwk hok hB;go_wp2_with fail
   refine(R6.out _).mono ?_;rintro e w5 ⟨rfl,hb5⟩;replace hE:=Az (hE.out.trans (hb5.mono hE.out.size));clear hb5 R6 a0 a1 a2 a3 a4 a5 a6 a7;go_wp2;go_roundw
   case rel=>exact⟨k+1,by go_num,hlt,hE⟩
   case measure=>simp[intOf];omega
  ·obtain rfl:k=m:=by omega
   have n1:¬(k:Int)<(k:Int):=by omega
   go_wp2;go_ret;exact⟨rfl,hB.out⟩
theorem B4(W:World)(vl vs vi vr:Value)(pg:Pg)(ss is rs:List Nat)(each n:Nat)(hl:Cg W vl pg.l.length (By pg.l))(hs:Cg W vs ss.length (ss.map fun s:Nat=>Value.int .i64 (s:Int)))
  (hi:Cg W vi is.length (is.map fun v:Nat=>Value.int .u32 v))(hr:Cg W vr rs.length (rs.map fun v:Nat=>Value.int .u32 v))(h8:ss.length≤8)(hle:∀ s∈ss,s≤4096)(DD:ss.sum≤8192)
  (h1:1≤n)(h2:n≤64)(he:each≤8)(Jo:ss.sum=is.length)(Jg:rs.length=n)(hp:WA pg) :
  Calls Tryz.prog 21 #[.agg #[vl,.int .i64 pg.lock,.int .i64 pg.unlock,vs,vi,.int .i64 (each:Int),vr],.int .i64 (n:Int)] W fun e W'=>e=.returned (.bool true)∧Below W.heap.size W W':=by
 have hb0:=Bw W (.cells #[vl,.int .i64 pg.lock,.int .i64 pg.unlock,vs,vi,.int .i64 (each:Int),vr] 30);have hC:=Az (JR _ vs ss (hs.keep hb0) h8 hle DD);have hN:=Bv W (.cells #[vl,.int .i64 pg.lock,.int .i64 pg.unlock,vs,vi,.int .i64 (each:Int),vr] 30);have hR:=Az (fun W1 (hb:Below W.heap.size W W1)=>O9 W1 vl pg (hl.keep hb) hp);obtain⟨Ai,ci,rfl⟩:=hi.slice;obtain⟨Ar,cr,rfl⟩:=hr.slice;obtain⟨As,cs,rfl⟩:=hs.slice;obtain⟨Al,cl,rfl⟩:=hl.slice;obtain⟨W1,hW1⟩:∃ X,W.alloc (.cells #[.slice Al pg.l.length cl,.int .i64 pg.lock,.int .i64 pg.unlock,.slice As ss.length cs,.slice Ai is.length ci,.int .i64 (each:Int),.slice Ar rs.length cr] 30)=X:=⟨_,rfl⟩
 rw[hW1]at hb0 hC hN;have hml:(AL ss).length=is.length:=by unfold AL;rw[H5];exact Jo
 obtain⟨cells,hcells⟩:∃ x,AL ss=x:=⟨_,rfl⟩
 rw[hcells]at hC hml;rw[Jg]at hW1 hN;generalize is.length=mi at *;rw[Jg];have n3:W1.cell? ⟨W.heap.size,3,none⟩=some (.slice As ss.length cs):=(Bc hN 3).trans rfl;have n0:(1:Int)≤(n:Int):=by omega
 have n1:(n:Int)≤64:=by omega
 have e0:(0:Int)≤(each:Int):=by omega
 have e1:(each:Int)≤8:=by omega
 generalize hlg:pg.l.length=ml at *;generalize ss.length=ms at *;generalize hlk:pg.lock=lk at *;generalize hul:pg.unlock=ul at *;replace hb0:=Az hb0;replace hN:=Az hN;replace hml:=Az hml;clear hl hs hi hr h8 hle DD Jo Jg hp hcells he h1 h2 hlg hlk hul;go_enter Tryz.func21,Tryz.ntmps21;go_wp2_with fail
 try rw[hW1]
 clear hW1;refine hC.out.mono ?_;rintro e w2 ⟨vc,rfl,hcl,hb2⟩;replace hN:=Az (Bk hb2 hN.out);obtain⟨Ac,cc,rfl⟩:=Ke hcl;rw[hml.out];replace hb0:=Az (hb0.out.trans (hb2.mono hb0.out.size));clear hC hb2 n3 hml hcl;have c0:w2.cell? ⟨W.heap.size,0,none⟩=some (.slice Al ml cl):=(Bc hN.out 0).trans rfl;have c1:w2.cell? ⟨W.heap.size,1,none⟩=some (.int .i64 lk):=(Bc hN.out 1).trans rfl;have c2:w2.cell? ⟨W.heap.size,2,none⟩=some (.int .i64 ul):=(Bc hN.out 2).trans rfl;have c4:w2.cell? ⟨W.heap.size,4,none⟩=some (.slice Ai mi ci):=(Bc hN.out 4).trans rfl;have c5:w2.cell? ⟨W.heap.size,5,none⟩=some (.int .i64 (each:Int)):=(Bc hN.out 5).trans rfl;have c6:w2.cell? ⟨W.heap.size,6,none⟩=some (.slice Ar n cr):=(Bc hN.out 6).trans rfl;clear hN;go_wp2_with fail
 refine(hR.out _ hb0.out).mono ?_;rintro e w3 ⟨rfl,hb3⟩;replace hb0:=Az (hb0.out.trans (hb3.mono hb0.out.size));clear hR hb3 c0 c1 c2 c4 c5 c6;go_wp2;go_ret;exact⟨rfl,hb0.out⟩
end
end Go.Proofs.YtnmahobjmpdkdaaGreatDoor

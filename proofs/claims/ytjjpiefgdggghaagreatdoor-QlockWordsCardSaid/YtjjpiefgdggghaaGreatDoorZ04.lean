/- Parts: Kit, Env, RegionLate, RangeCell. -/
import Derived.Test.YtjjpiefgdggghaaGreatDoorProg
import Derived.WalkKit
import Derived.Below
import Derived.Outline
import Derived.WalkLawsBesides
import Derived.Test.YtjjpiefgdggghaaGreatDoorZ01
import Derived.Lib.Hide
import Derived.Laws.ResultCell
import Derived.Laws.Rows
import Derived.Test.YtjjpiefgdggghaaGreatDoorZ03
import Derived.Lib.Strings
import Derived.Maps.AppendAt
import Derived.OrdersHeld
import Derived.Deep.RegionHeld3
import Derived.Test.YtjjpiefgdggghaaGreatDoorZ02
import Derived.RangeFuncWrites
set_option linter.unusedVariables false
set_option linter.unusedSimpArgs false
set_option maxRecDepth 100000
set_option maxHeartbeats 40000000
namespace Go.Proofs.YtjjpiefgdggghaaGreatDoor
section
open Go.RowKit Go.Proofs.YtjjpiefgdggghaaGreatDoorW.PrintWords
theorem Bv(w:World)(o:Obj):(w.alloc o).heap[w.heap.size]?=some o:=(MapKept.heap_alloc w o).1
theorem As{w:World}{g:Nat}{x:Obj}(h:w.heap[g]?=some x)(o:Obj):(w.alloc o).heap[g]?=some x:=(Below.heap_alloc _ _ _ (Bl h)).trans h
theorem Bk{w w':World}{g:Nat}{x:Obj}(hb:Below w.heap.size w w')(h:w.heap[g]?=some x):w'.heap[g]?=some x:=(hb.block _ (Bl h)).trans h
theorem Be{w:World}{g:Nat}{x:Obj}(h:w.heap[g]?=some x):w.drew.heap[g]?=some x:=h
theorem GD{w:World}{g:Nat}{l:List UInt8}(h:B9 w .u8 (some ⟨g,0,none⟩) l.length (bytesOf ⟨l.toArray⟩))(k:Nat)(hk:k<l.length) :
  w.cell? ⟨g,k,none⟩=some (.int .u8 ((l.getD k 0).toNat:Int)):=by
 obtain⟨ad,e,hc⟩:=h.2.2 (by omega);cases e;have:=hc k hk;rw[add_plain]at this;rw[this];simp[bytesOf,List.getD_eq_getElem?_getD,List.getElem?_eq_getElem hk]
theorem Cx(w:World)(o o':Obj):((w.alloc o).alloc o').heap[w.heap.size+1]?=some o':=by
 have h:=Bv (w.alloc o) o';have e:(w.alloc o).heap.size=w.heap.size+1:=by simp
 rw[e]at h;exact h
theorem Fx(W:World)(e:TypeId)(l:List UInt8)(g:Nat)(hg:W.heap.size=g)(hs:l.length≤9223372036854775807) :
  B9 (Lib.bytesWorld W e ⟨l.toArray⟩) .u8 (some ⟨g,0,none⟩) l.length (bytesOf ⟨l.toArray⟩):=by
 subst hg;have h:=Jb W e ⟨l.toArray⟩ (by simpa [ByteArray.size]using hs)
 simpa [ByteArray.size]using h
theorem Dv{W:World}{g:Nat}{x:Obj}(h:W.heap[g]?=some x)(e:TypeId)(s:ByteArray):(Lib.bytesWorld W e s).heap[g]?=some x :=
 (Lib.bytesWorld_at_old W e s g (Bl h)).trans h
theorem Cq{w:World}{k:IntKind}{g n:Nat}{xs:List Int}(h:B9 w k (some ⟨g,0,none⟩) n xs){p:Addr}(hp:p.block≠g)(v:Value):B9 (w.setCell p v) k (some ⟨g,0,none⟩) n xs :=
 ⟨h.1,h.2.1,fun hn=>by
  obtain⟨ad,e,hc⟩:=h.2.2 hn;refine⟨ad,e,fun j hj=>?_⟩;cases e;have:=hc j hj;rw[add_plain]at this ⊢;rw[←this];exact World.cell?_of_block (w:=w) (a:=⟨g,j,none⟩) (Below.heap_setCell w p v g (fun e=>hp e.symm))⟩
theorem Ah{P:Program}{fn:Func}{p u:Tmp}{ty:TypeId}(h:fn.results=#[.cell p ty,.tmp u])(tmps:Array Value)(w:World)(g:Nat)(t:TypeId)(cs:Array Value)(fr:Nat×Nat)(d:TypeDesc)
  (hp:tmps.getD p undef=.pointer (some ⟨g,0,none⟩))(hg:w.heap[g]?=some (.cells cs t fr))
  (hu:P.underlying ty=some d)(hd:(match d with |.struct _ |.array _ _=>true |_=>false)=true)(hi:(P.info? ty).map (·.size)=some cs.size) :
  (results fn tmps).run P w=.ok (.tuple #[.agg cs,tmps.getD u undef]) w:=by
 have hp':tmps[p]?.getD undef=.pointer (some ⟨g,0,none⟩):=by simpa using hp
 rw[results_cell_tmp h];simp[hp',asAddr,run_loadVar_row w g t ty cs fr d hg hu hd hi,Result.andThen]
theorem BF{w:World}{g:Nat}{t:TypeId}{a0 a1 a2 a3 a4 a5 a6 a7:Value}(h:w.heap[g]?=some (.cells #[a0,a1,a2,a3,a4,a5,a6,a7] t (0,0)))(v0 v1 v2 v3 v4 v5 v6 v7:Value) :
  ((((((((w.setCell ⟨g,0,none⟩ v0).setCell ⟨g,1,none⟩ v1).setCell ⟨g,2,none⟩ v2).setCell ⟨g,3,none⟩ v3).setCell ⟨g,4,none⟩ v4).setCell ⟨g,5,none⟩ v5).setCell ⟨g,6,none⟩ v6).setCell ⟨g,7,none⟩ v7).heap[g]?=some (.cells #[v0,v1,v2,v3,v4,v5,v6,v7] t (0,0)):=by
 have h0:(w.setCell ⟨g,0,none⟩ v0).heap[g]?=some (.cells #[v0,a1,a2,a3,a4,a5,a6,a7] t (0,0)):=Bs h 0 v0;have h1:((w.setCell ⟨g,0,none⟩ v0).setCell ⟨g,1,none⟩ v1).heap[g]?=some (.cells #[v0,v1,a2,a3,a4,a5,a6,a7] t (0,0)):=Bs h0 1 v1;have h2:(((w.setCell ⟨g,0,none⟩ v0).setCell ⟨g,1,none⟩ v1).setCell ⟨g,2,none⟩ v2).heap[g]?=some (.cells #[v0,v1,v2,a3,a4,a5,a6,a7] t (0,0)):=Bs h1 2 v2;have h3:((((w.setCell ⟨g,0,none⟩ v0).setCell ⟨g,1,none⟩ v1).setCell ⟨g,2,none⟩ v2).setCell ⟨g,3,none⟩ v3).heap[g]?=some (.cells #[v0,v1,v2,v3,a4,a5,a6,a7] t (0,0)):=Bs h2 3 v3;have h4:(((((w.setCell ⟨g,0,none⟩ v0).setCell ⟨g,1,none⟩ v1).setCell ⟨g,2,none⟩ v2).setCell ⟨g,3,none⟩ v3).setCell ⟨g,4,none⟩ v4).heap[g]?=some (.cells #[v0,v1,v2,v3,v4,a5,a6,a7] t (0,0)):=Bs h3 4 v4;have h5:((((((w.setCell ⟨g,0,none⟩ v0).setCell ⟨g,1,none⟩ v1).setCell ⟨g,2,none⟩ v2).setCell ⟨g,3,none⟩ v3).setCell ⟨g,4,none⟩ v4).setCell ⟨g,5,none⟩ v5).heap[g]?=some (.cells #[v0,v1,v2,v3,v4,v5,a6,a7] t (0,0)):=Bs h4 5 v5;have h6:(((((((w.setCell ⟨g,0,none⟩ v0).setCell ⟨g,1,none⟩ v1).setCell ⟨g,2,none⟩ v2).setCell ⟨g,3,none⟩ v3).setCell ⟨g,4,none⟩ v4).setCell ⟨g,5,none⟩ v5).setCell ⟨g,6,none⟩ v6).heap[g]?=some (.cells #[v0,v1,v2,v3,v4,v5,v6,a7] t (0,0)):=Bs h5 6 v6;have h7:((((((((w.setCell ⟨g,0,none⟩ v0).setCell ⟨g,1,none⟩ v1).setCell ⟨g,2,none⟩ v2).setCell ⟨g,3,none⟩ v3).setCell ⟨g,4,none⟩ v4).setCell ⟨g,5,none⟩ v5).setCell ⟨g,6,none⟩ v6).setCell ⟨g,7,none⟩ v7).heap[g]?=some (.cells #[v0,v1,v2,v3,v4,v5,v6,v7] t (0,0)):=Bs h6 7 v7;exact h7
structure Env (w:World):Prop where
 shaped:w.ShapedOpen Tryz.prog
 QQ:Lib.TabIs Tryz.prog w "internal/strconv.uint64pow10" .u64 Lib.pow10Tab
 Rd:∃ tp p,w.var? Tryz.prog "strconv.ErrSyntax" = some #[.iface tp p]
 Re:∃ tp p,w.var? Tryz.prog "strconv.ErrRange" = some #[.iface tp p]
theorem GW{P:Program}{w w':World}{n:String}{cs:Array Value}(hb:Below w.heap.size w w')(h:w.var? P n=some cs):w'.var? P n=some cs:=by
 unfold World.var? at h ⊢;cases hg:P.globalNamed n with
 |none=>rw[hg]at h;cases h
 |some g =>
  rw[hg]at h;simp only[Option.bind_some]at h ⊢;have hlt:g<w.heap.size:=by
   cases hh:w.heap[g]? with
   |none=>rw[hh]at h;cases h
   |some o=>exact Bl hh
  rw[hb.block g hlt];exact h
theorem Env.below{w w':World}(h:Env w)(hb:Below w.heap.size w w'):Env w' :=
 ⟨h.shaped.keptBut (hb.frame (fun _=>False)) (fun _ x=>x.elim),GW hb h.QQ,h.Rd.imp fun _ x=>x.imp fun _ y=>GW hb y,h.Re.imp fun _ x=>x.imp fun _ y=>GW hb y⟩
end
section
open Go.RowKit
theorem toList_mk(l:List UInt8):(⟨l.toArray⟩:ByteArray).toList=l:=by rw[ByteArray.toList_eq]
theorem C5(l:List UInt8)(a b:Nat):(⟨l.toArray⟩:ByteArray).extract a b=⟨((l.drop a).take (b-a)).toArray⟩:=by
 have h:=Lib.extract_data ⟨l.toArray⟩ a b;have e:∀ x:ByteArray,x=⟨x.data.toList.toArray⟩:=fun x=>by cases x;simp
 rw[e (ByteArray.extract _ _ _),h]
theorem Bh{s:ByteArray}{l':List UInt8}(h:s=⟨l'.toArray⟩):Ending.returned (.string s)=.returned (.string ⟨l'.toArray⟩):=by rw[h]
theorem KQ{k:IntKind}{a b:Int}(h:a=b):Ending.returned (.int k a)=.returned (.int k b):=by rw[h]
theorem Bi(a b:List UInt8):(⟨a.toArray⟩:ByteArray)++⟨b.toArray⟩=⟨(a++b).toArray⟩:=by
 have e:∀ x:ByteArray,x=⟨x.data.toList.toArray⟩:=fun x=>by cases x;simp
 rw[e (HAppend.hAppend _ _),ByteArray.data_append];simp
end
section
open Go.RowKit Go.Proofs.YtjjpiefgdggghaaGreatDoorW.PrintWords
def By(w:World)(g:Nat)(e:TypeId)(l:List UInt8):Prop :=
 ∃ cs fr,w.heap[g]?=some (.cells cs e fr)∧∀ j,j<l.length→w.cell? ⟨g,j,none⟩=some (.int .u8 ((l.getD j 0).toNat:Int))
theorem GX(W:World)(e:TypeId)(s:ByteArray):∃ cs fr,(Lib.bytesWorld W e s).heap[W.heap.size]?=some (.cells cs e fr):=by
 unfold Lib.bytesWorld World.freeze;have h:(W.drew.alloc (.cells (Lib.bytesCells W e s) e)).heap[W.heap.size]?=some (.cells (Lib.bytesCells W e s) e):=(MapKept.heap_alloc W.drew (.cells (Lib.bytesCells W e s) e)).1;simp only[Nat.one_ne_zero,if_false,Array.getElem?_modify,if_true,h,Option.map_some];exact⟨_,_,rfl⟩
theorem By.new(W:World)(e:TypeId)(l:List UInt8)(g:Nat)(hg:W.heap.size=g)(hs:l.length≤9223372036854775807):By (Lib.bytesWorld W e ⟨l.toArray⟩) g e l:=by
 obtain⟨cs,fr,h⟩:=GX W e ⟨l.toArray⟩;refine⟨cs,fr,by rw[←hg];exact h,fun j hj=>?_⟩;exact GD (Fx W e l g hg hs) j hj
theorem By.Ky{w w':World}{g:Nat}{e:TypeId}{l:List UInt8}(h:By w g e l)(hk:w'.heap[g]?=w.heap[g]?):By w' g e l:=by
 obtain⟨cs,fr,h1,h2⟩:=h;exact⟨cs,fr,hk.trans h1,fun j hj=>(World.cell?_of_block (w:=w) (a:=⟨g,j,none⟩) hk).trans (h2 j hj)⟩
theorem By.lt{w:World}{g:Nat}{e:TypeId}{l:List UInt8}(h:By w g e l):g<w.heap.size:=by
 obtain⟨cs,fr,h1,_⟩:=h;exact Bl h1
theorem By.keep{w w':World}{g:Nat}{e:TypeId}{l:List UInt8}(h:By w g e l)(hb:Below w.heap.size w w'):By w' g e l :=
 h.Ky (hb.block g h.lt)
theorem By.grown{w w':World}{g:Nat}{e:TypeId}{l:List UInt8}{row:Option Nat}(h:By w g e l)(hg:w.grownBy w' row)(hne:some g≠row):By w' g e l :=
 h.Ky (hg.block g h.lt hne)
theorem By.set{w:World}{g:Nat}{e:TypeId}{l:List UInt8}(h:By w g e l){p:Addr}(hp:g≠p.block)(v:Value):By (w.setCell p v) g e l :=
 h.Ky (Below.heap_setCell w p v g hp)
theorem Oa{w:World}{base:Nat}{e t:TypeId}{size n g:Nat}{v:Value}{xs:List Value}{cs:Array Value}{fr:Nat×Nat}(h:w.ownsRow base e size v n xs)(hg:w.heap[g]?=some (.cells cs t fr))(hne:e≠t):some g≠v.ownBlock:=by
 intro he;obtain⟨_,h⟩:=h;rcases h with ⟨rfl,_⟩ |⟨g',cap,cur,rfl,_,hh,_⟩
 ·cases he
 ·have:g=g':=by simpa [Value.ownBlock]using he
  subst this;rw[hg]at hh;cases hh;exact hne rfl
theorem By.own{w:World}{base:Nat}{e t:TypeId}{size n g:Nat}{v:Value}{xs:List Value}{l:List UInt8}(hb:By w g t l)(h:w.ownsRow base e size v n xs)(hne:e≠t):some g≠v.ownBlock:=by
 obtain⟨cs,fr,h1,_⟩:=hb;exact Oa h h1 hne
theorem DX:(Tryz.prog.info? 3).map (fun i=>(i.zero,i.size,i.bytes))=some (some (.int .i64 0),1,8):=by kernel_rfl
def B6(W:World)(base:Nat)(v:Value)(xs:List Int):Prop:=W.ownsRow base 3 1 v xs.length (xs.map (Value.int .i64))
theorem B6.nil(W:World)(base:Nat):B6 W base (.slice none 0 0) []:=⟨rfl,.inl ⟨rfl,rfl⟩⟩
theorem B6.cell{W:World}{base:Nat}{v:Value}{xs:List Int}(h:B6 W base v xs)(hn:0<xs.length) :
  ∃ g c,v=.slice (some ⟨g,0,none⟩) xs.length c∧xs.length≤c∧∀ j,j<xs.length→W.cell? ⟨g,j,none⟩=some (.int .i64 (xs.getD j 0)):=by
 obtain⟨h1,h2⟩:=h;rcases h2 with ⟨rfl,h0⟩ |⟨g,cap,cur,rfl,hg,hh,hc,hm,hs,ht⟩
 ·omega
 ·refine⟨g,cap,rfl,hc,fun j hj=>(Bc hh j).trans ?_⟩;have e:(cur.toList.take (xs.length*1))[j]?=(xs.map (Value.int .i64))[j]?:=by rw[ht]
  rw[List.getElem?_take_of_lt (by omega),Array.getElem?_toList]at e;rw[e];simp[List.getElem?_eq_getElem hj,List.getD_eq_getElem?_getD]
theorem B6.slice{W:World}{base:Nat}{v:Value}{xs:List Int}(h:B6 W base v xs):∃ A c,v=.slice A xs.length c:=by
 rcases h.2 with ⟨rfl,h0⟩ |⟨g,cap,cur,rfl,_⟩
 ·exact⟨none,0,by rw[h0]⟩
 ·exact⟨_,_,rfl⟩
theorem B6.move{W W1:World}{base:Nat}{v:Value}{xs:List Int}(h:B6 W base v xs)(hm:∀ k,v.ownBlock=some k→W1.heap[k]?=W.heap[k]?):B6 W1 base v xs:=Om h hm
theorem B6.keep{W W1:World}{base:Nat}{v:Value}{xs:List Int}(h:B6 W base v xs)(hb:Below W.heap.size W W1):B6 W1 base v xs :=
 h.move fun k hk=>hb.block k (Ol h k hk)
structure Dn (W:World) (base:Nat) (v:Value) (xs:List Int) (u:Value) (ys:List Int):Prop where
 a:B6 W base v xs
 b:B6 W base u ys
 ap:∀ k,v.ownBlock=some k→u.ownBlock≠some k
section
variable {W W1:World} {base:Nat} {v u:Value} {xs ys:List Int}
theorem Dn.nil(W:World)(base:Nat):Dn W base (.slice none 0 0) [] (.slice none 0 0) []:=⟨.nil _ _,.nil _ _,fun k hk=>by simp[Value.ownBlock]at hk⟩
theorem Dn.keep(h:Dn W base v xs u ys)(hb:Below W.heap.size W W1):Dn W1 base v xs u ys:=⟨h.a.keep hb,h.b.keep hb,h.ap⟩
theorem Dn.swap(h:Dn W base v xs u ys):Dn W base u ys v xs:=⟨h.b,h.a,fun k hk e=>h.ap k e hk⟩
theorem Dn.set{p:Addr}{cs:Array Value}{t:TypeId}(h:Dn W base v xs u ys)(hp:W.heap[p.block]?=some (.cells cs t (0,0)))(ht:3≠t)(x:Value):Dn (W.setCell p x) base v xs u ys :=
 ⟨h.a.move fun k hk=>Below.heap_setCell W p x k (fun e=>Oa h.a hp ht (by rw[hk,e])),h.b.move fun k hk=>Below.heap_setCell W p x k (fun e=>Oa h.b hp ht (by rw[hk,e])),h.ap⟩
end
section
variable {ops:Array Oper} {rest:List Oper} {o:Oper} {a:Act} {Q:Exit→Act→World→Prop} {W:World}
theorem KE(hgd:o.guard=none)(s x:Operand)(ho:o.op=.call {callee:=.builtin .append,args:=#[s,x],argTypes:=#[26,26]})
  (base g:Nat)(y:Int)(v:Value)(xs:List Int)(hs:a.eval s=v)(hr:B6 W base v xs)(hx:a.eval x=.slice (some ⟨g,0,none⟩) 1 1)
  (hy:W.heap[g]?=some (.cells #[.int .i64 y] 3 (0,0)))(hl:xs.length≤1000000)(hb:base≤W.heap.size)
  (h:∀ v' W1,B6 W1 base v' (xs++[y])→W.grownBy W1 v.ownBlock→(v'.ownBlock=v.ownBlock∨v'.ownBlock=some W.heap.size)→wpList Tryz.prog ops Q rest (a.put o.dst v') W1) :
  wpList Tryz.prog ops Q (o::rest) a W:=by
 obtain⟨i9,hi,hz0,hz1,hz2⟩:=info_parts DX;refine wpList_append_own_at _ hgd s x 26 ho base 3 i9 (.int .i64 0) 1 8 Tryz.underlying26 hi hz0 hz1 hz2 rfl (by decide) v xs.length (xs.map (Value.int .i64)) hs hr ⟨g,0,none⟩ 1 1 [.int .i64 y] hx rfl ?_ ?_ ?_ ?_ hb ?_
 ·intro j u hj;rw[add_plain];exact(Bc hy j).trans (by simpa using hj)
 ·simp[Value.oneCell']
 ·simp[maxLen];omega
 ·omega
 ·intro v' w' h1 h2 _ h4;refine h v' w' ?_ h2 h4;unfold B6;rw[List.map_append,List.length_append];exact h1
theorem Gy(hgd:o.guard=none)(s x:Operand)(ho:o.op=.call {callee:=.builtin .append,args:=#[s,x],argTypes:=#[26,26]})
  (base g:Nat)(y:Int)(v u:Value)(xs ys:List Int)(hs:a.eval s=v)(hr:Dn W base v xs u ys)(hx:a.eval x=.slice (some ⟨g,0,none⟩) 1 1)
  (hy:W.heap[g]?=some (.cells #[.int .i64 y] 3 (0,0)))(hl:xs.length≤1000000)(hb:base≤W.heap.size)
  (h:∀ v' W1,Dn W1 base v' (xs++[y]) u ys→W.grownBy W1 v.ownBlock→wpList Tryz.prog ops Q rest (a.put o.dst v') W1) :
  wpList Tryz.prog ops Q (o::rest) a W:=by
 refine KE hgd s x ho base g y v xs hs hr.a hx hy hl hb fun v' W1 h1 h2 h3=>h v' W1 ⟨h1,hr.b.move fun k hk=>h2.block k (Ol hr.b k hk) (fun e=>hr.ap k e.symm hk),fun k hk e=>?_⟩ h2
 rcases h3 with h3 |h3
 ·exact hr.ap k (by rw[←h3];exact hk) e
 ·rw[h3]at hk;cases hk;exact absurd (Ol hr.b _ e) (Nat.lt_irrefl _)
end
end
end Go.Proofs.YtjjpiefgdggghaaGreatDoor
namespace Go
section
section
variable {P:Program} {ops:Array Oper} {Q:Exit→Act→World→Prop} {md:Region.Mode} {S:World→Prop} {D:List Nat}
def Cw(D:List Nat)(listed:Array Bool):Bool:=D.all fun d=>!listed.getD d false
def Ce(md:Region.Mode)(ops:Array Oper)(i:Nat):Nat→Nat→Bool
 |0,d=>d==i
 |n+1,d=>d==i||((ops[d]?).map (·.after.any fun e=>Region.binds md e&&Ce md ops i n e.on)).getD false
def F6(md:Region.Mode)(ops:Array Oper)(listed:Array Bool):Bool :=
 (List.range ops.size).all fun j=>!listed.getD j false||((ops[j]?).map (·.after.all fun e=>!Region.binds md e||listed.getD e.on false)).getD false
def DD(md:Region.Mode)(ops:Array Oper)(listed:Array Bool):Prop :=
 ∀ j o,ops[j]?=some o→listed.getD j false=true→∀ e∈o.after,Region.binds md e=true→listed.getD e.on false=true
theorem H7{listed:Array Bool}(h:F6 md ops listed=true):DD md ops listed:=by
 intro j o ho hj e he hb;unfold F6 at h;rw[List.all_eq_true]at h;have h1:=h j (List.mem_range.2 (Array.getElem?_eq_some_iff.1 ho).1);rw[hj,ho]at h1;have h2:(o.after.all fun e=>!Region.binds md e||listed.getD e.on false)=true:=by simpa using h1
 have h3:=Array.all_eq_true_iff_forall_mem.1 h2 e he;rw[hb]at h3
 simpa using h3
theorem DD.step{listed:Array Bool}{i:Nat}(h:DD md ops listed)(hr:i∈Region.ready md ops listed):DD md ops (listed.setIfInBounds i true):=by
 intro j o ho hj e he hb;obtain⟨_,oi,hoi,hall⟩:=mem_ready.1 hr;by_cases hij:i=j
 ·subst hij;rw[hoi]at ho;cases ho;exact getD_set_true (hall e he hb)
 ·rw[getD_set_ne false hij]at hj;exact getD_set_true (h j o ho hj e he hb)
theorem DW{listed:Array Bool}{i:Nat}(h:DD md ops listed):∀ n d,Ce md ops i n d=true→listed.getD d false=true→listed.getD i false=true
 |0,d,hw,hd=>by
  have:d=i:=by simpa [Ce]using hw
  subst this;exact hd
 |n+1,d,hw,hd=>by
  unfold Ce at hw;rcases Bool.or_eq_true ..▸hw with h1 |h1
  ·have:d=i:=by simpa using h1
   subst this;exact hd
  ·cases ho:ops[d]? with
   |none=>rw[ho]at h1;simp at h1
   |some o =>
    rw[ho]at h1;have h2:(o.after.any fun e=>Region.binds md e&&Ce md ops i n e.on)=true:=by simpa using h1
    obtain⟨e,he,hb⟩:=Array.any_eq_true'.1 h2;rw[Bool.and_eq_true]at hb;exact DW h n e.on hb.2 (h d o ho hd e he hb.1)
theorem Hi{listed:Array Bool}{i:Nat}(h:DD md ops listed)(hi:listed.getD i false=false)(n d:Nat)(hw:Ce md ops i n d=true)(hne:d≠i) :
  d∉Region.ready md ops listed:=fun hr=>by
 obtain⟨_,o,ho,hall⟩:=mem_ready.1 hr;cases n with
 |zero=>exact hne (by simpa [Ce]using hw)
 |succ n =>
  unfold Ce at hw;rcases Bool.or_eq_true ..▸hw with h1 |h1
  ·exact hne (by simpa using h1)
  ·rw[ho]at h1;have h2:(o.after.any fun e=>Region.binds md e&&Ce md ops i n e.on)=true:=by simpa using h1
   obtain⟨e,he,hb⟩:=Array.any_eq_true'.1 h2;rw[Bool.and_eq_true]at hb;have:=DW h n e.on hb.2 (hall e he hb.1);rw[hi]at this;cases this
def Cc(P:Program)(md:Region.Mode)(ops:Array Oper)(Q:Exit→Act→World→Prop)(S:World→Prop)(D:List Nat):Nat→Array Bool→Act→World→Prop
 |0,listed,a,w=>Region.ready md ops listed=[]∧Q .normal a w
 |fuel+1,listed,a,w =>
  (Region.ready md ops listed=[]→Q .normal a w) ∧
  ∀ i∈Region.ready md ops listed,wpOp P ops Q i (fun a' w'=>(Cw D (listed.setIfInBounds i true)=true→S w')∧Cc P md ops Q S D fuel (listed.setIfInBounds i true) a' w') a w
theorem Fh:∀ (fuel:Nat) (listed:Array Bool) (a:Act) (w:World),Cc P md ops Q S D fuel listed a w→wpAny P md ops Q fuel listed a w
 |0,_,_,_,h=>h
 |fuel+1,_,_,_,h=>⟨h.1,fun i hi=>wpOp_mono (fun a' w' h'=>Fh fuel _ a' w' h'.2) (h.2 i hi)⟩
theorem ER{listed:Array Bool}{i:Nat}(hr:i∈Region.ready md ops listed):listed.getD i false=false:=by
 have h0:=(mem_ready.1 hr).1;rcases Nat.lt_or_ge i listed.size with h' |h'
 ·simp[h']at h0 ⊢;exact h0
 ·simp[Array.getElem?_eq_none h']at h0
theorem Fs{listed:Array Bool}{i:Nat}(hi:i∉D)(h:Cw D listed=true):Cw D (listed.setIfInBounds i true)=true:=by
 unfold Cw at *;rw[List.all_eq_true]at *;intro d hd;rw[getD_set_ne false (fun e:i=d=>hi (by rw[e];exact hd))];exact h d hd
theorem I9{i:Nat}{oi:Oper}{v:Value}(hi:ops[i]?=some oi)(hsel:∀ (j:Nat) (o:Oper) cs b,ops[j]?=some o→o.op≠.select cs b)
  (hQ:∀ c a w,Q (.panic c) (a.put oi.dst v) w→Q (.panic c) a w)(hD:∀ d∈D,d≠i∧Ce md ops i ops.size d=true) :
  ∀ (fuel:Nat) (listed:Array Bool) (a:Act) (w:World),
   (∀ j oj,ops[j]?=some oj→j≠i→listed.getD j true=false→(∀ e∈oj.after,Region.binds md e=true→e.on≠i)→oi.apart ops oj=true) →
   DD md ops listed→i∈Region.ready md ops listed→YieldsIf P ops S oi v a→S w →
   Cc P md ops Q S D fuel (listed.setIfInBounds i true) (a.put oi.dst v) w→Cc P md ops Q S D (fuel+1) listed a w:=by
 intro fuel;induction fuel with
 |zero =>
  intro listed a w _ hsd hr hy hS H;refine⟨fun h=>(by rw[h]at hr;cases hr),fun j hj=>?_⟩;by_cases hji:j=i
  ·subst hji;exact hy.wpOp hi hS ⟨fun _=>hS,H⟩
  ·have:=ready_mono hj hji;rw[H.1]at this;cases this
 |succ fuel ih =>
  intro listed a w hfree hsd hr hy hS H;refine⟨fun h=>(by rw[h]at hr;cases hr),fun j hj=>?_⟩;by_cases hji:j=i
  ·subst hji;exact hy.wpOp hi hS ⟨fun _=>hS,H⟩
  ·have h1:=H.2 j (ready_mono hj hji);obtain⟨hjun,oj,hoj,hall⟩:=mem_ready.1 hj;have hnot:∀ e∈oj.after,Region.binds md e=true→e.on≠i:=fun e he hb heq=>by
    have h1:=hall e he hb;rw[heq,ER hr]at h1;cases h1
   have h2:=wpOp_putIf hoj (hfree j oj hoj hji hjun hnot) (fun cs b=>hsel i oi cs b hi) (fun cs b=>hsel j oj cs b hoj) hQ hy h1;have hfree':∀ k ok,ops[k]?=some ok→k≠i→(listed.setIfInBounds j true).getD k true=false →
     (∀ e∈ok.after,Region.binds md e=true→e.on≠i)→oi.apart ops ok=true:=fun k ok hk hki hun hno=>by
    refine hfree k ok hk hki ?_ hno;by_cases hjk:j=k
    ·subst hjk;exact hjun
    ·rw[getD_set_ne true hjk]at hun;exact hun
   have hun:=ER hr;have hjD:j∉D:=fun hd=>Hi hsd hun _ j (hD j hd).2 hji hj
   have hiD:i∉D:=fun hd=>(hD i hd).1 rfl
   have hnl:Cw D listed=true:=by
    unfold Cw;rw[List.all_eq_true];intro d hd;cases hc:listed.getD d false with
    |false=>rfl
    |true =>
     have:=DW hsd _ d (hD d hd).2 hc;rw[hun]at this;cases this
   refine wpOp_mono (fun a' w' h3=>?_) h2;have hS':S w':=h3.2.1 (Fs hjD (Fs hiD hnl));refine⟨fun _=>hS',ih (listed.setIfInBounds j true) a' w' hfree' (hsd.step hj) (ready_mono hr (Ne.symm hji)) h3.1 hS' ?_⟩;rw[Array.setIfInBounds_comm _ _ hji];exact h3.2.2
theorem Cl{i:Nat}{oi:Oper}{v:Value}{fuel:Nat}{listed:Array Bool}{a:Act}{w:World}(hi:ops[i]?=some oi)
  (hs:(Region.noSelect ops&&Region.free md ops listed i&&(Region.ready md ops listed).contains i&&F6 md ops listed&&D.all (fun d=>d != i&&Ce md ops i ops.size d))=true)
  (hQ:∀ c a w,Q (.panic c) (a.put oi.dst v) w→Q (.panic c) a w)(hy:YieldsIf P ops S oi v a)(hS:S w)
  (h:Cc P md ops Q S D fuel (listed.setIfInBounds i true) (a.put oi.dst v) w):Cc P md ops Q S D (fuel+1) listed a w:=by
 simp only[Bool.and_eq_true]at hs;obtain⟨⟨⟨⟨h1,h2⟩,h3⟩,h4⟩,h5⟩:=hs;refine I9 hi (Region.noSelect_spec h1) hQ (fun d hd=>?_) fuel listed a w (Region.free_spec hi h2) (H7 h4) (by simpa using h3) hy hS h;have:=List.all_eq_true.1 h5 d hd
 simpa using this
theorem H8{i:Nat}{oi:Oper}{v:Value}(hi:ops[i]?=some oi)(hsel:∀ (j:Nat) (o:Oper) cs b,ops[j]?=some o→o.op≠.select cs b)
  (hQ:∀ c a w,Q (.panic c) (a.put oi.dst v) w→Q (.panic c) a w)(hiD:i∉D) :
  ∀ (fuel:Nat) (listed:Array Bool) (a:Act) (w:World),
   (∀ j oj,ops[j]?=some oj→j≠i→listed.getD j true=false→(∀ e∈oj.after,Region.binds md e=true→e.on≠i)→oi.apart ops oj=true) →
   i∈Region.ready md ops listed→Yields P ops oi v a→(Cw D listed=true→S w) →
   Cc P md ops Q S D fuel (listed.setIfInBounds i true) (a.put oi.dst v) w→Cc P md ops Q S D (fuel+1) listed a w:=by
 have back:∀ {listed:Array Bool},Cw D (listed.setIfInBounds i true)=true→Cw D listed=true:=fun {listed} h=>by
  unfold Cw at *;rw[List.all_eq_true]at *;intro d hd;have h1:=h d hd
  rwa [getD_set_ne false (fun e:i=d=>hiD (by rw[e];exact hd))]at h1
 intro fuel;induction fuel with
 |zero =>
  intro listed a w _ hr hy hS H;refine⟨fun h=>(by rw[h]at hr;cases hr),fun j hj=>?_⟩;by_cases hji:j=i
  ·subst hji;exact hy.wpOp hi ⟨fun h=>hS (back h),H⟩
  ·have:=ready_mono hj hji;rw[H.1]at this;cases this
 |succ fuel ih =>
  intro listed a w hfree hr hy hS H;refine⟨fun h=>(by rw[h]at hr;cases hr),fun j hj=>?_⟩;by_cases hji:j=i
  ·subst hji;exact hy.wpOp hi ⟨fun h=>hS (back h),H⟩
  ·have h1:=H.2 j (ready_mono hj hji);obtain⟨hjun,oj,hoj,hall⟩:=mem_ready.1 hj;have hnot:∀ e∈oj.after,Region.binds md e=true→e.on≠i:=fun e he hb heq=>by
    have h1:=hall e he hb;rw[heq,ER hr]at h1;cases h1
   have h2:=wpOp_put hoj (hfree j oj hoj hji hjun hnot) (fun cs b=>hsel i oi cs b hi) (fun cs b=>hsel j oj cs b hoj) hQ hy h1;have hfree':∀ k ok,ops[k]?=some ok→k≠i→(listed.setIfInBounds j true).getD k true=false →
     (∀ e∈ok.after,Region.binds md e=true→e.on≠i)→oi.apart ops ok=true:=fun k ok hk hki hun hno=>by
    refine hfree k ok hk hki ?_ hno;by_cases hjk:j=k
    ·subst hjk;exact hjun
    ·rw[getD_set_ne true hjk]at hun;exact hun
   refine wpOp_mono (fun a' w' h3=>?_) h2;have hS':Cw D (listed.setIfInBounds j true)=true→S w':=fun h=>h3.2.1 (by rw[Array.setIfInBounds_comm _ _ (Ne.symm hji)];exact Fs hiD h)
   refine⟨hS',ih (listed.setIfInBounds j true) a' w' hfree' (ready_mono hr (Ne.symm hji)) h3.1 hS' ?_⟩;rw[Array.setIfInBounds_comm _ _ hji];exact h3.2.2
theorem Ax{i:Nat}{oi:Oper}{v:Value}{fuel:Nat}{listed:Array Bool}{a:Act}{w:World}(hi:ops[i]?=some oi)
  (hs:(Region.noSelect ops&&Region.free md ops listed i&&(Region.ready md ops listed).contains i&&!D.contains i)=true)
  (hQ:∀ c a w,Q (.panic c) (a.put oi.dst v) w→Q (.panic c) a w)(hy:Yields P ops oi v a)(hS:Cw D listed=true→S w)
  (h:Cc P md ops Q S D fuel (listed.setIfInBounds i true) (a.put oi.dst v) w):Cc P md ops Q S D (fuel+1) listed a w:=by
 simp only[Bool.and_eq_true]at hs;obtain⟨⟨⟨h1,h2⟩,h3⟩,h4⟩:=hs;exact H8 hi (Region.noSelect_spec h1) hQ (by simpa using h4) fuel listed a w (Region.free_spec hi h2) (by simpa using h3) hy hS h
def Aa(P:Program)(md:Region.Mode)(ops:Array Oper)(Q:Exit→Act→World→Prop)(S:World→Prop)(D:List Nat)(fuel:Nat)(listed:Array Bool)(a:Act)(w:World)(rs:List Nat):Prop :=
 ∀ i∈rs,wpOp P ops Q i (fun a' w'=>(Cw D (listed.setIfInBounds i true)=true→S w')∧Cc P md ops Q S D fuel (listed.setIfInBounds i true) a' w') a w
theorem Aa.nil{fuel:Nat}{listed:Array Bool}{a:Act}{w:World}:Aa P md ops Q S D fuel listed a w []:=fun _ h=>by cases h
theorem Aa.cons{fuel:Nat}{listed:Array Bool}{a:Act}{w:World}{i:Nat}{o:Oper}{rs:List Nat}(ho:ops[i]?=some o)
  (h:∀ K':Act→World→Prop,Shut (∀ a w,(Cw D (listed.setIfInBounds i true)=true→S w)→((Cw D (listed.setIfInBounds i true)=true→S w)→Cc P md ops Q S D fuel (listed.setIfInBounds i true) a w)→K' a w)→if Region.wanted o (yielded ops a.tmps)=true then Oper.wp P o a w K' Q else K' (a.put o.dst undef) w)
  (hs:Aa P md ops Q S D fuel listed a w rs):Aa P md ops Q S D fuel listed a w (i::rs):=fun j hj=>by
 rcases List.mem_cons.1 hj with rfl |hj
 ·exact wpOp_step ho (fun K' hK=>h K' (fun a w hS hW=>hK a w ⟨hS,hW hS⟩))
 ·exact hs j hj
theorem Ab{rs:List Nat}{fuel:Nat}{listed:Array Bool}{a:Act}{w:World}(hr:Region.ready md ops listed=rs)(hne:rs≠[])
 (h:Aa P md ops Q S D fuel listed a w rs):Cc P md ops Q S D (fuel+1) listed a w:=⟨fun h0=>absurd (hr▸h0) hne,hr▸h⟩
theorem AL{listed:Array Bool}{a:Act}{w:World}(hr:Region.ready md ops listed=[])(h:Q .normal a w) :
  ∀ fuel,Cc P md ops Q S D fuel listed a w
 |0=>⟨hr,h⟩
 |_+1=>⟨fun _=>h,by rw[hr];simp⟩
theorem Aw{id:Nat}{a:Act}{w:World}(D:List Nat)(hm:P.follows .mixedOrders=true)(hS:S w.drew)
  (h:S w.drew→Cc P .any ops Q S D ops.size (Array.replicate ops.size false) a w.drew):(Code.region id ops true).wp P Q a w :=
 wp_region_any hm (Fh _ _ _ _ (h hS))
end
end
end Go
namespace Go.Proofs.YtjjpiefgdggghaaGreatDoor
section
open Go Go.RowKit Go.Proofs.YtjjpiefgdggghaaGreatDoorW.PrintWords
section
variable {F:Fence} {n:Nat} {P:Program} {α:Type}
structure Calm {β:Type} (c:Nat) (I:β→World→Prop):Prop where
 below:∀ s W W',I s W→Below W.heap.size W W'→I s W'
 cell:∀ s W v,I s W→I s (W.setCell ⟨c,0,none⟩ v)
def JH(F:Fence)(n:Nat)(P:Program)(g:Nat)(lb:Array Value)(enc:α→Value)(c:Nat)(S Sp:List α→Prop)(w:World):Prop :=
 ∀ (l:Nat) (J Jx:List α→World→Prop) (W:World),Below w.heap.size w W→Calm c J→Calm c Jx →
  (∀ pre x W1,Sp (pre++[x])→J pre W1→YieldAt F (n-1) P l #[enc x] W1 fun e W2 =>
   (e=.returned (.bool true)∧J (pre++[x]) W2∧W2.heap[c]?=W1.heap[c]?)∨(e=.returned (.bool false)∧Jx (pre++[x]) W2)) →
  J [] W →
  CallsIn F n P g (#[.func (.yield l) #[] #[]]++lb) W fun e W2=>(∃ v,e=.returned v)∧((∃ xs,S xs∧J xs W2)∨(∃ pre,Sp pre∧Jx pre W2))
def No(B c:Nat)(I Ix:List α→World→Prop)(xs:List α)(W:World):Exit→Act→World→Prop
 |.normal,_,W2=>KeepsFrom B W W2∧W2.heap[c]?=W.heap[c]?∧I xs W2
 |.ret,_,W2=>KeepsFrom B W W2∧Ix xs W2
 |_,_,_=>False
theorem Dz{W:World}{l c:Nat}{o:Obj}(h:c≠l):(W.putObj l o).heap[c]?=W.heap[c]?:=World.putObj_heap_other h
theorem Kt{g:Operand}{p:Tmp}{assign body:Code}{Q:Exit→Act→World→Prop}{a:Act}{w:World}
  (hro:F.round=none)(h1:1≤n){gf:Nat}{lb:Array Value}(hg:a.eval g=.func (.func gf) #[] lb)(hFg:F.fn gf)(eg:∀ args w,(callFunc gf args).run P w=.ok (.enter gf args) w)
  {enc:α→Value}{c:Nat}{S Sp:List α→Prop}(hc:c<w.heap.size)(hseq:JH F (n-1) P gf lb enc c S Sp w)
  (I Ix:List α→World→Prop)(hI:Calm c I)(hIx:Calm c Ix)
  (hIp:∀ s W l o o',I s W→w.heap.size≤l→W.heap[l]?=some o→o.isCells=false→I s (W.putObj l o'))
  (hIxp:∀ s W l o o',Ix s W→w.heap.size≤l→W.heap[l]?=some o→o.isCells=false→Ix s (W.putObj l o'))
  (h0:I [] w)(a₁:α→Act)
  (hassign:∀ (l:Nat) (x:α) (W:World) (K:Act→World→Prop),K (a₁ x) W →
   assign.wpIn (F.inRound l) (n-1-1) P (Exit.then K (fun _ _ _=>False)) {tmps:=(#[p].zip #[enc x]).foldl (fun t (p,v)=>t.setIfInBounds p v) a.tmps,defers:=[]} W)
  (hbody:∀ (l:Nat) (pre:List α) (x:α) (W:World),Sp (pre++[x])→I pre W→body.wpIn (F.inRound l) (n-1-1) P (No w.heap.size c I Ix (pre++[x]) W) (a₁ x) W)
  (hdone:∀ (D:Nat) (xs:List α) (W:World),w.heap.size≤D→S xs→I xs W→W.heap[D]?=some (.deferred (some []))→Q .normal {a with defers:={target:=.collected D,args:=#[]}::a.defers} W)
  (hstop:∀ (D:Nat) (pre:List α) (W:World),w.heap.size≤D→Sp pre→Ix pre W→W.heap[D]?=some (.deferred (some []))→Code.ret.wpIn F n P Q {a with defers:={target:=.collected D,args:=#[]}::a.defers} W) :
  (Code.rangeFunc g #[p] assign body).wpIn F n P Q a w:=by
 refine wpIn_rangeFunc fun fn hfn=>?_
 rw[hro]
 let rec_:LoopState→Option Code→Loop:=fun st pe=>{state:=st,pending:=pe,fn,tmps:=a.tmps,params:=#[p],assign,body,defers:=w.heap.size}
 have hrec:∀ st pe,rec_ st pe={state:=st,pending:=pe,fn,tmps:=a.tmps,params:=#[p],assign,body,defers:=w.heap.size}:=fun _ _=>rfl
 generalize rec_=rec at hrec;have hD0:(w.alloc (.deferred (some []))).heap[w.heap.size]?=some (.deferred (some [])):=Bv w _;have hW1:((w.alloc (.deferred (some []))).alloc (.loop (rec .ready none))).heap[w.heap.size+1]?=some (.loop (rec .ready none)):=by
  have:=Bv (w.alloc (.deferred (some []))) (.loop (rec .ready none))
  rwa [World.size_alloc]at this
 have hD1:((w.alloc (.deferred (some []))).alloc (.loop (rec .ready none))).heap[w.heap.size]?=some (.deferred (some [])):=As hD0 _;have hB1:Below w.heap.size w ((w.alloc (.deferred (some []))).alloc (.loop (rec .ready none))):=((Below.refl _ w).alloc (Nl _) _).alloc (by simp) _;have hI1:I [] ((w.alloc (.deferred (some []))).alloc (.loop (rec .ready none))):=hI.below _ _ _ h0 hB1;refine⟨w.heap.size+1,[{target:=.collected w.heap.size,args:=#[]}],(w.alloc (.deferred (some []))).alloc (.loop (rec .ready none)),{target:=.fn (.func gf) lb,args:=#[.func (.yield (w.heap.size+1)) #[] #[]]},
  (w.alloc (.deferred (some []))).alloc (.loop (rec .ready none)),gf,#[.func (.yield (w.heap.size+1)) #[] #[]]++lb,(w.alloc (.deferred (some []))).alloc (.loop (rec .ready none)),?_,?_,?_,?_,fun _=>h1,?_⟩
 ·rw[hrec];exact run_enterLoop_outer _ _ _ _ _
 ·simp only[resolve,hg];simp[go_sem]
 ·intro f' hf';simp[Target.leads]at hf';subst hf';exact hFg
 ·simp[invoke,go_sem,eg]
 have hkeep:∀ {W W2:World} {o:Obj} {k:Nat},W.heap[k]?=some o→Below W.heap.size W W2→W2.heap[k]?=some o:=fun h hb=>Bk hb h
 have hfar:∀ {W:World} {o:Obj} {k:Nat} (v:Value),w.heap.size≤k→W.heap[k]?=some o→(W.setCell ⟨c,0,none⟩ v).heap[k]?=some o:=fun v hk h =>
  (Below.heap_setCell _ ⟨c,0,none⟩ v _ (show _≠c by omega)).trans h
 refine(hseq (w.heap.size+1)
  (fun pre W=>I pre W∧W.heap[w.heap.size+1]?=some (.loop (rec .ready none))∧W.heap[w.heap.size]?=some (.deferred (some [])))
  (fun pre W=>Ix pre W∧W.heap[w.heap.size+1]?=some (.loop (rec .done (some .ret)))∧W.heap[w.heap.size]?=some (.deferred (some [])))
  _ hB1
  ⟨fun s W W2 h hb=>⟨hI.below _ _ _ h.1 hb,hkeep h.2.1 hb,hkeep h.2.2 hb⟩,fun s W v h=>⟨hI.cell _ _ _ h.1,hfar v (by omega) h.2.1,hfar v (by omega) h.2.2⟩⟩
  ⟨fun s W W2 h hb=>⟨hIx.below _ _ _ h.1 hb,hkeep h.2.1 hb,hkeep h.2.2 hb⟩,fun s W v h=>⟨hIx.cell _ _ _ h.1,hfar v (by omega) h.2.1,hfar v (by omega) h.2.2⟩⟩
  ?round ⟨hI1,hW1,hD1⟩).mono ?after
 case round =>
  rintro pre x W hsp ⟨hi,hl,hd⟩;have hlt:w.heap.size+1<W.heap.size:=Bl hl;have hy:=run_yield (P:=P) (args:=#[enc x]) hl (by rw[hrec];rfl);rw[hrec]at hy;refine⟨fn,_,assign,body,hy,roundIn_of_wpIn hfn (hassign _ x W _ ⟨_,run_beginRound hl (by rw[hrec]),?_⟩)⟩;obtain⟨busy,hbusy⟩:∃ b:Obj,b=.loop {rec .ready none with state:=.busy}:=⟨_,rfl⟩
  rw[←hbusy];have hl2:(W.putObj (w.heap.size+1) busy).heap[w.heap.size+1]?=some busy:=World.putObj_heap_same hlt;have hd2:(W.putObj (w.heap.size+1) busy).heap[w.heap.size]?=some (.deferred (some [])):=(Dz (by omega)).trans hd;have hc2:(W.putObj (w.heap.size+1) busy).heap[c]?=W.heap[c]?:=Dz (by omega);have hnb:busy.isCells=false:=by rw[hbusy];rfl
  refine wpIn_mono (hbody _ pre x _ hsp (hIp _ _ _ _ _ hi (by omega) hl rfl)) ?_;rintro e a3 W3 hp;have fin:∀ (jump:Option Code),KeepsFrom w.heap.size (W.putObj (w.heap.size+1) busy) W3 →
    (Instr.endRound (w.heap.size+1) jump).run P W3=.ok (.bool jump.isNone) (W3.putObj (w.heap.size+1) (.loop (rec (if jump.isNone then .ready else .done) jump))) ∧
    W3.heap[w.heap.size+1]?=some busy ∧
    (W3.putObj (w.heap.size+1) (.loop (rec (if jump.isNone then .ready else .done) jump))).heap[w.heap.size+1]?=some (.loop (rec (if jump.isNone then .ready else .done) jump)) ∧
    (W3.putObj (w.heap.size+1) (.loop (rec (if jump.isNone then .ready else .done) jump))).heap[w.heap.size]?=some (.deferred (some [])):=fun jump hk3=>by
   have hl3:=hk3.same _ _ (by omega) hl2 hnb;have hd3:=hk3.same _ _ (Nl _) hd2 rfl;have hr:=hl3;rw[hbusy]at hr;have:=run_endRound (P:=P) jump hr;rw[hrec]at this ⊢;exact⟨this,hl3,World.putObj_heap_same (Bl hl3),(Dz (by omega)).trans hd3⟩
  cases e with
  |normal =>
   obtain⟨hk3,hc3,hi3⟩:=hp;obtain⟨hr,hl3,hl4,hd4⟩:=fin none hk3;exact⟨_,_,hr,.inl ⟨rfl,⟨hIp _ _ _ _ _ hi3 (by omega) hl3 hnb,hl4,hd4⟩,(Dz (by omega)).trans (hc3.trans hc2)⟩⟩
  |ret =>
   obtain⟨hk3,hi3⟩:=hp;obtain⟨hr,hl3,hl4,hd4⟩:=fin (some .ret) hk3;exact⟨_,_,hr,.inr ⟨rfl,hIxp _ _ _ _ _ hi3 (by omega) hl3 hnb,hl4,hd4⟩⟩
  |exit id=>exact hp.elim
  |goto t=>exact hp.elim
  |panic ch=>exact hp.elim
  |outgrown=>exact hp.elim
 case after =>
  rintro e W2 ⟨⟨v,rfl⟩,(⟨xs,hS,hi,hl,hd⟩ |⟨pre,hSp,hi,hl,hd⟩)⟩
  ·have he:=run_endLoop (P:=P) hl (by rw[hrec];simp);rw[hrec]at he;exact⟨none,_,he,hdone _ xs _ (Nl _) hS (hIp _ _ _ _ _ hi (by omega) hl rfl) ((Dz (by omega)).trans hd)⟩
  ·have he:=run_endLoop (P:=P) hl (by rw[hrec];simp);rw[hrec]at he;exact⟨some .ret,_,he,hstop _ pre _ (Nl _) hSp (hIxp _ _ _ _ _ hi (by omega) hl rfl) ((Dz (by omega)).trans hd)⟩
end
end
end Go.Proofs.YtjjpiefgdggghaaGreatDoor

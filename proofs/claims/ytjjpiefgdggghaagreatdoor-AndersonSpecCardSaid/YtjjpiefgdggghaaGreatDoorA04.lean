/- Parts: Kit, Env, Field, RangeCell, TracePlain, TrIs, Frame. -/
import Derived.Test.YtjjpiefgdggghaaGreatDoorProg
import Derived.WalkKit
import Derived.Below
import Derived.Outline
import Derived.WalkLawsBesides
import Derived.Test.YtjjpiefgdggghaaGreatDoorA01
import Derived.Lib.Hide
import Derived.Laws.ResultCell
import Derived.Laws.Rows
import Derived.Test.YtjjpiefgdggghaaGreatDoorA02
import Derived.Lib.Strings
import Derived.Maps.AppendAt
import Derived.Test.YtjjpiefgdggghaaGreatDoorA03
import Derived.RangeFuncWrites
set_option linter.unusedVariables false
set_option linter.unusedSimpArgs false
set_option maxRecDepth 100000
set_option maxHeartbeats 40000000
namespace Go.Proofs.YtjjpiefgdggghaaGreatDoor
section
open Go.RowKit Go.Proofs.YtjjpiefgdggghaaGreatDoorW.PrintWords
theorem Bv(w:World)(o:Obj):(w.alloc o).heap[w.heap.size]?=some o:=(MapKept.heap_alloc w o).1
theorem AZ{w:World}{g:Nat}{x:Obj}(h:w.heap[g]?=some x)(o:Obj):(w.alloc o).heap[g]?=some x:=(Below.heap_alloc _ _ _ (Bl h)).trans h
theorem Bk{w w':World}{g:Nat}{x:Obj}(hb:Below w.heap.size w w')(h:w.heap[g]?=some x):w'.heap[g]?=some x:=(hb.block _ (Bl h)).trans h
theorem Be{w:World}{g:Nat}{x:Obj}(h:w.heap[g]?=some x):w.drew.heap[g]?=some x:=h
theorem Jm{w:World}{g:Nat}{l:List UInt8}(h:Ca w .u8 (some ⟨g,0,none⟩) l.length (bytesOf ⟨l.toArray⟩))(k:Nat)(hk:k<l.length) :
  w.cell? ⟨g,k,none⟩=some (.int .u8 ((l.getD k 0).toNat:Int)):=by
 obtain⟨ad,e,hc⟩:=h.2.2 (by omega);cases e;have:=hc k hk;rw[add_plain]at this;rw[this];simp[bytesOf,List.getD_eq_getElem?_getD,List.getElem?_eq_getElem hk]
theorem Cv(w:World)(o o':Obj):((w.alloc o).alloc o').heap[w.heap.size+1]?=some o':=by
 have h:=Bv (w.alloc o) o';have e:(w.alloc o).heap.size=w.heap.size+1:=by simp
 rw[e]at h;exact h
theorem Ho(W:World)(e:TypeId)(l:List UInt8)(g:Nat)(hg:W.heap.size=g)(hs:l.length≤9223372036854775807) :
  Ca (Lib.bytesWorld W e ⟨l.toArray⟩) .u8 (some ⟨g,0,none⟩) l.length (bytesOf ⟨l.toArray⟩):=by
 subst hg;have h:=Mo W e ⟨l.toArray⟩ (by simpa [ByteArray.size]using hs)
 simpa [ByteArray.size]using h
theorem Ei{W:World}{g:Nat}{x:Obj}(h:W.heap[g]?=some x)(e:TypeId)(s:ByteArray):(Lib.bytesWorld W e s).heap[g]?=some x :=
 (Lib.bytesWorld_at_old W e s g (Bl h)).trans h
theorem Dl{w:World}{k:IntKind}{g n:Nat}{xs:List Int}(h:Ca w k (some ⟨g,0,none⟩) n xs){p:Addr}(hp:p.block≠g)(v:Value):Ca (w.setCell p v) k (some ⟨g,0,none⟩) n xs :=
 ⟨h.1,h.2.1,fun hn=>by
  obtain⟨ad,e,hc⟩:=h.2.2 hn;refine⟨ad,e,fun j hj=>?_⟩;cases e;have:=hc j hj;rw[add_plain]at this ⊢;rw[←this];exact World.cell?_of_block (w:=w) (a:=⟨g,j,none⟩) (Below.heap_setCell w p v g (fun e=>hp e.symm))⟩
theorem Bi{P:Program}{fn:Func}{p u:Tmp}{ty:TypeId}(h:fn.results=#[.cell p ty,.tmp u])(tmps:Array Value)(w:World)(g:Nat)(t:TypeId)(cs:Array Value)(fr:Nat×Nat)(d:TypeDesc)
  (hp:tmps.getD p undef=.pointer (some ⟨g,0,none⟩))(hg:w.heap[g]?=some (.cells cs t fr))
  (hu:P.underlying ty=some d)(hd:(match d with |.struct _ |.array _ _=>true |_=>false)=true)(hi:(P.info? ty).map (·.size)=some cs.size) :
  (results fn tmps).run P w=.ok (.tuple #[.agg cs,tmps.getD u undef]) w:=by
 have hp':tmps[p]?.getD undef=.pointer (some ⟨g,0,none⟩):=by simpa using hp
 rw[results_cell_tmp h];simp[hp',asAddr,run_loadVar_row w g t ty cs fr d hg hu hd hi,Result.andThen]
theorem Ci{w:World}{g:Nat}{t:TypeId}{a0 a1 a2 a3 a4 a5 a6 a7:Value}(h:w.heap[g]?=some (.cells #[a0,a1,a2,a3,a4,a5,a6,a7] t (0,0)))(v0 v1 v2 v3 v4 v5 v6 v7:Value) :
  ((((((((w.setCell ⟨g,0,none⟩ v0).setCell ⟨g,1,none⟩ v1).setCell ⟨g,2,none⟩ v2).setCell ⟨g,3,none⟩ v3).setCell ⟨g,4,none⟩ v4).setCell ⟨g,5,none⟩ v5).setCell ⟨g,6,none⟩ v6).setCell ⟨g,7,none⟩ v7).heap[g]?=some (.cells #[v0,v1,v2,v3,v4,v5,v6,v7] t (0,0)):=by
 have h0:(w.setCell ⟨g,0,none⟩ v0).heap[g]?=some (.cells #[v0,a1,a2,a3,a4,a5,a6,a7] t (0,0)):=Bs h 0 v0;have h1:((w.setCell ⟨g,0,none⟩ v0).setCell ⟨g,1,none⟩ v1).heap[g]?=some (.cells #[v0,v1,a2,a3,a4,a5,a6,a7] t (0,0)):=Bs h0 1 v1;have h2:(((w.setCell ⟨g,0,none⟩ v0).setCell ⟨g,1,none⟩ v1).setCell ⟨g,2,none⟩ v2).heap[g]?=some (.cells #[v0,v1,v2,a3,a4,a5,a6,a7] t (0,0)):=Bs h1 2 v2;have h3:((((w.setCell ⟨g,0,none⟩ v0).setCell ⟨g,1,none⟩ v1).setCell ⟨g,2,none⟩ v2).setCell ⟨g,3,none⟩ v3).heap[g]?=some (.cells #[v0,v1,v2,v3,a4,a5,a6,a7] t (0,0)):=Bs h2 3 v3;have h4:(((((w.setCell ⟨g,0,none⟩ v0).setCell ⟨g,1,none⟩ v1).setCell ⟨g,2,none⟩ v2).setCell ⟨g,3,none⟩ v3).setCell ⟨g,4,none⟩ v4).heap[g]?=some (.cells #[v0,v1,v2,v3,v4,a5,a6,a7] t (0,0)):=Bs h3 4 v4;have h5:((((((w.setCell ⟨g,0,none⟩ v0).setCell ⟨g,1,none⟩ v1).setCell ⟨g,2,none⟩ v2).setCell ⟨g,3,none⟩ v3).setCell ⟨g,4,none⟩ v4).setCell ⟨g,5,none⟩ v5).heap[g]?=some (.cells #[v0,v1,v2,v3,v4,v5,a6,a7] t (0,0)):=Bs h4 5 v5;have h6:(((((((w.setCell ⟨g,0,none⟩ v0).setCell ⟨g,1,none⟩ v1).setCell ⟨g,2,none⟩ v2).setCell ⟨g,3,none⟩ v3).setCell ⟨g,4,none⟩ v4).setCell ⟨g,5,none⟩ v5).setCell ⟨g,6,none⟩ v6).heap[g]?=some (.cells #[v0,v1,v2,v3,v4,v5,v6,a7] t (0,0)):=Bs h5 6 v6;have h7:((((((((w.setCell ⟨g,0,none⟩ v0).setCell ⟨g,1,none⟩ v1).setCell ⟨g,2,none⟩ v2).setCell ⟨g,3,none⟩ v3).setCell ⟨g,4,none⟩ v4).setCell ⟨g,5,none⟩ v5).setCell ⟨g,6,none⟩ v6).setCell ⟨g,7,none⟩ v7).heap[g]?=some (.cells #[v0,v1,v2,v3,v4,v5,v6,v7] t (0,0)):=Bs h6 7 v7;exact h7
structure Env (w:World):Prop where
 shaped:w.ShapedOpen Tryz.prog
 WA:Lib.TabIs Tryz.prog w "internal/strconv.uint64pow10" .u64 Lib.pow10Tab
 WN:∃ tp p,w.var? Tryz.prog "strconv.ErrSyntax" = some #[.iface tp p]
 WO:∃ tp p,w.var? Tryz.prog "strconv.ErrRange" = some #[.iface tp p]
theorem J8{P:Program}{w w':World}{n:String}{cs:Array Value}(hb:Below w.heap.size w w')(h:w.var? P n=some cs):w'.var? P n=some cs:=by
 unfold World.var? at h ⊢;cases hg:P.globalNamed n with
 |none=>rw[hg]at h;cases h
 |some g =>
  rw[hg]at h;simp only[Option.bind_some]at h ⊢;have hlt:g<w.heap.size:=by
   cases hh:w.heap[g]? with
   |none=>rw[hh]at h;cases h
   |some o=>exact Bl hh
  rw[hb.block g hlt];exact h
theorem Env.below{w w':World}(h:Env w)(hb:Below w.heap.size w w'):Env w' :=
 ⟨h.shaped.keptBut (hb.frame (fun _=>False)) (fun _ x=>x.elim),J8 hb h.WA,h.WN.imp fun _ x=>x.imp fun _ y=>J8 hb y,h.WO.imp fun _ x=>x.imp fun _ y=>J8 hb y⟩
end
section
open Go.RowKit
theorem toList_mk(l:List UInt8):(⟨l.toArray⟩:ByteArray).toList=l:=by rw[ByteArray.toList_eq]
theorem D4(l:List UInt8)(a b:Nat):(⟨l.toArray⟩:ByteArray).extract a b=⟨((l.drop a).take (b-a)).toArray⟩:=by
 have h:=Lib.extract_data ⟨l.toArray⟩ a b;have e:∀ x:ByteArray,x=⟨x.data.toList.toArray⟩:=fun x=>by cases x;simp
 rw[e (ByteArray.extract _ _ _),h]
theorem B4{s:ByteArray}{l':List UInt8}(h:s=⟨l'.toArray⟩):Ending.returned (.string s)=.returned (.string ⟨l'.toArray⟩):=by rw[h]
theorem OC{k:IntKind}{a b:Int}(h:a=b):Ending.returned (.int k a)=.returned (.int k b):=by rw[h]
theorem B9(a b:List UInt8):(⟨a.toArray⟩:ByteArray)++⟨b.toArray⟩=⟨(a++b).toArray⟩:=by
 have e:∀ x:ByteArray,x=⟨x.data.toList.toArray⟩:=fun x=>by cases x;simp
 rw[e (HAppend.hAppend _ _),ByteArray.data_append];simp
end
section
open Go.RowKit Go.Proofs.YtjjpiefgdggghaaGreatDoorW.PrintWords
def BJ(w:World)(g:Nat)(e:TypeId)(l:List UInt8):Prop :=
 ∃ cs fr,w.heap[g]?=some (.cells cs e fr)∧∀ j,j<l.length→w.cell? ⟨g,j,none⟩=some (.int .u8 ((l.getD j 0).toNat:Int))
theorem J9(W:World)(e:TypeId)(s:ByteArray):∃ cs fr,(Lib.bytesWorld W e s).heap[W.heap.size]?=some (.cells cs e fr):=by
 unfold Lib.bytesWorld World.freeze;have h:(W.drew.alloc (.cells (Lib.bytesCells W e s) e)).heap[W.heap.size]?=some (.cells (Lib.bytesCells W e s) e):=(MapKept.heap_alloc W.drew (.cells (Lib.bytesCells W e s) e)).1;simp only[Nat.one_ne_zero,if_false,Array.getElem?_modify,if_true,h,Option.map_some];exact⟨_,_,rfl⟩
theorem BJ.new(W:World)(e:TypeId)(l:List UInt8)(g:Nat)(hg:W.heap.size=g)(hs:l.length≤9223372036854775807):BJ (Lib.bytesWorld W e ⟨l.toArray⟩) g e l:=by
 obtain⟨cs,fr,h⟩:=J9 W e ⟨l.toArray⟩;refine⟨cs,fr,by rw[←hg];exact h,fun j hj=>?_⟩;exact Jm (Ho W e l g hg hs) j hj
theorem BJ.NS{w w':World}{g:Nat}{e:TypeId}{l:List UInt8}(h:BJ w g e l)(hk:w'.heap[g]?=w.heap[g]?):BJ w' g e l:=by
 obtain⟨cs,fr,h1,h2⟩:=h;exact⟨cs,fr,hk.trans h1,fun j hj=>(World.cell?_of_block (w:=w) (a:=⟨g,j,none⟩) hk).trans (h2 j hj)⟩
theorem BJ.lt{w:World}{g:Nat}{e:TypeId}{l:List UInt8}(h:BJ w g e l):g<w.heap.size:=by
 obtain⟨cs,fr,h1,_⟩:=h;exact Bl h1
theorem BJ.keep{w w':World}{g:Nat}{e:TypeId}{l:List UInt8}(h:BJ w g e l)(hb:Below w.heap.size w w'):BJ w' g e l :=
 h.NS (hb.block g h.lt)
theorem BJ.grown{w w':World}{g:Nat}{e:TypeId}{l:List UInt8}{row:Option Nat}(h:BJ w g e l)(hg:w.grownBy w' row)(hne:some g≠row):BJ w' g e l :=
 h.NS (hg.block g h.lt hne)
theorem BJ.set{w:World}{g:Nat}{e:TypeId}{l:List UInt8}(h:BJ w g e l){p:Addr}(hp:g≠p.block)(v:Value):BJ (w.setCell p v) g e l :=
 h.NS (Below.heap_setCell w p v g hp)
theorem Oa{w:World}{base:Nat}{e t:TypeId}{size n g:Nat}{v:Value}{xs:List Value}{cs:Array Value}{fr:Nat×Nat}(h:w.ownsRow base e size v n xs)(hg:w.heap[g]?=some (.cells cs t fr))(hne:e≠t):some g≠v.ownBlock:=by
 intro he;obtain⟨_,h⟩:=h;rcases h with ⟨rfl,_⟩ |⟨g',cap,cur,rfl,_,hh,_⟩
 ·cases he
 ·have:g=g':=by simpa [Value.ownBlock]using he
  subst this;rw[hg]at hh;cases hh;exact hne rfl
theorem BJ.own{w:World}{base:Nat}{e t:TypeId}{size n g:Nat}{v:Value}{xs:List Value}{l:List UInt8}(hb:BJ w g t l)(h:w.ownsRow base e size v n xs)(hne:e≠t):some g≠v.ownBlock:=by
 obtain⟨cs,fr,h1,_⟩:=hb;exact Oa h h1 hne
theorem EX:(Tryz.prog.info? 3).map (fun i=>(i.zero,i.size,i.bytes))=some (some (.int .i64 0),1,8):=by kernel_rfl
def AS(W:World)(base:Nat)(v:Value)(xs:List Int):Prop:=W.ownsRow base 3 1 v xs.length (xs.map (Value.int .i64))
theorem AS.nil(W:World)(base:Nat):AS W base (.slice none 0 0) []:=⟨rfl,.inl ⟨rfl,rfl⟩⟩
theorem AS.cell{W:World}{base:Nat}{v:Value}{xs:List Int}(h:AS W base v xs)(hn:0<xs.length) :
  ∃ g c,v=.slice (some ⟨g,0,none⟩) xs.length c∧xs.length≤c∧∀ j,j<xs.length→W.cell? ⟨g,j,none⟩=some (.int .i64 (xs.getD j 0)):=by
 obtain⟨h1,h2⟩:=h;rcases h2 with ⟨rfl,h0⟩ |⟨g,cap,cur,rfl,hg,hh,hc,hm,hs,ht⟩
 ·omega
 ·refine⟨g,cap,rfl,hc,fun j hj=>(Bc hh j).trans ?_⟩;have e:(cur.toList.take (xs.length*1))[j]?=(xs.map (Value.int .i64))[j]?:=by rw[ht]
  rw[List.getElem?_take_of_lt (by omega),Array.getElem?_toList]at e;rw[e];simp[List.getElem?_eq_getElem hj,List.getD_eq_getElem?_getD]
theorem AS.slice{W:World}{base:Nat}{v:Value}{xs:List Int}(h:AS W base v xs):∃ A c,v=.slice A xs.length c:=by
 rcases h.2 with ⟨rfl,h0⟩ |⟨g,cap,cur,rfl,_⟩
 ·exact⟨none,0,by rw[h0]⟩
 ·exact⟨_,_,rfl⟩
theorem AS.move{W W1:World}{base:Nat}{v:Value}{xs:List Int}(h:AS W base v xs)(hm:∀ k,v.ownBlock=some k→W1.heap[k]?=W.heap[k]?):AS W1 base v xs:=Om h hm
theorem AS.keep{W W1:World}{base:Nat}{v:Value}{xs:List Int}(h:AS W base v xs)(hb:Below W.heap.size W W1):AS W1 base v xs :=
 h.move fun k hk=>hb.block k (Ol h k hk)
structure DT (W:World) (base:Nat) (v:Value) (xs:List Int) (u:Value) (ys:List Int):Prop where
 a:AS W base v xs
 b:AS W base u ys
 ap:∀ k,v.ownBlock=some k→u.ownBlock≠some k
section
variable {W W1:World} {base:Nat} {v u:Value} {xs ys:List Int}
theorem DT.nil(W:World)(base:Nat):DT W base (.slice none 0 0) [] (.slice none 0 0) []:=⟨.nil _ _,.nil _ _,fun k hk=>by simp[Value.ownBlock]at hk⟩
theorem DT.keep(h:DT W base v xs u ys)(hb:Below W.heap.size W W1):DT W1 base v xs u ys:=⟨h.a.keep hb,h.b.keep hb,h.ap⟩
theorem DT.swap(h:DT W base v xs u ys):DT W base u ys v xs:=⟨h.b,h.a,fun k hk e=>h.ap k e hk⟩
theorem DT.set{p:Addr}{cs:Array Value}{t:TypeId}(h:DT W base v xs u ys)(hp:W.heap[p.block]?=some (.cells cs t (0,0)))(ht:3≠t)(x:Value):DT (W.setCell p x) base v xs u ys :=
 ⟨h.a.move fun k hk=>Below.heap_setCell W p x k (fun e=>Oa h.a hp ht (by rw[hk,e])),h.b.move fun k hk=>Below.heap_setCell W p x k (fun e=>Oa h.b hp ht (by rw[hk,e])),h.ap⟩
end
section
variable {ops:Array Oper} {rest:List Oper} {o:Oper} {a:Act} {Q:Exit→Act→World→Prop} {W:World}
theorem Lc(hgd:o.guard=none)(s x:Operand)(ho:o.op=.call {callee:=.builtin .append,args:=#[s,x],argTypes:=#[26,26]})
  (base g:Nat)(y:Int)(v:Value)(xs:List Int)(hs:a.eval s=v)(hr:AS W base v xs)(hx:a.eval x=.slice (some ⟨g,0,none⟩) 1 1)
  (hy:W.heap[g]?=some (.cells #[.int .i64 y] 3 (0,0)))(hl:xs.length≤1000000)(hb:base≤W.heap.size)
  (h:∀ v' W1,AS W1 base v' (xs++[y])→W.grownBy W1 v.ownBlock→(v'.ownBlock=v.ownBlock∨v'.ownBlock=some W.heap.size)→wpList Tryz.prog ops Q rest (a.put o.dst v') W1) :
  wpList Tryz.prog ops Q (o::rest) a W:=by
 obtain⟨i9,hi,hz0,hz1,hz2⟩:=info_parts EX;refine wpList_append_own_at _ hgd s x 26 ho base 3 i9 (.int .i64 0) 1 8 Tryz.underlying26 hi hz0 hz1 hz2 rfl (by decide) v xs.length (xs.map (Value.int .i64)) hs hr ⟨g,0,none⟩ 1 1 [.int .i64 y] hx rfl ?_ ?_ ?_ ?_ hb ?_
 ·intro j u hj;rw[add_plain];exact(Bc hy j).trans (by simpa using hj)
 ·simp[Value.oneCell']
 ·simp[maxLen];omega
 ·omega
 ·intro v' w' h1 h2 _ h4;refine h v' w' ?_ h2 h4;unfold AS;rw[List.map_append,List.length_append];exact h1
theorem IY(hgd:o.guard=none)(s x:Operand)(ho:o.op=.call {callee:=.builtin .append,args:=#[s,x],argTypes:=#[26,26]})
  (base g:Nat)(y:Int)(v u:Value)(xs ys:List Int)(hs:a.eval s=v)(hr:DT W base v xs u ys)(hx:a.eval x=.slice (some ⟨g,0,none⟩) 1 1)
  (hy:W.heap[g]?=some (.cells #[.int .i64 y] 3 (0,0)))(hl:xs.length≤1000000)(hb:base≤W.heap.size)
  (h:∀ v' W1,DT W1 base v' (xs++[y]) u ys→W.grownBy W1 v.ownBlock→wpList Tryz.prog ops Q rest (a.put o.dst v') W1) :
  wpList Tryz.prog ops Q (o::rest) a W:=by
 refine Lc hgd s x ho base g y v xs hs hr.a hx hy hl hb fun v' W1 h1 h2 h3=>h v' W1 ⟨h1,hr.b.move fun k hk=>h2.block k (Ol hr.b k hk) (fun e=>hr.ap k e.symm hk),fun k hk e=>?_⟩ h2
 rcases h3 with h3 |h3
 ·exact hr.ap k (by rw[←h3];exact hk) e
 ·rw[h3]at hk;cases hk;exact absurd (Ol hr.b _ e) (Nat.lt_irrefl _)
end
end
section
open Go.RowKit
theorem Cf(b:Nat)(s:Int)(k:Nat)(w:World)(h:Ay s=some k) :
  Calls Tryz.prog 149 #[.pointer (some ⟨b,0,none⟩),.int .u8 s] w fun e w'=>e=.returned (.tuple #[.pointer (some ⟨b,k,none⟩),.int .i64 7])∧w=w':=by
 have hs:(s=68∧k=1)∨(s=83∧k=2)∨(s=84∧k=3)∨(s=85∧k=4)∨(s=65∧k=5):=by
  unfold Ay at h;repeat' (split at h<;>try (simp_all;done))
 clear h;rcases hs with ⟨rfl,rfl⟩ |⟨rfl,rfl⟩ |⟨rfl,rfl⟩ |⟨rfl,rfl⟩ |⟨rfl,rfl⟩
 all_goals
  go_enter Tryz.func149,Tryz.ntmps149;go_wp2;go_ret2
  exact⟨rfl,rfl⟩
theorem Bj(b:Nat)(s:Int)(w:World)(h:Ay s=none) :
  Calls Tryz.prog 149 #[.pointer (some ⟨b,0,none⟩),.int .u8 s] w fun e w'=>e=.returned (.tuple #[.pointer none,.int .i64 0])∧w=w':=by
 have hs:(s==68)=false∧(s==83)=false∧(s==84)=false∧(s==85)=false∧(s==65)=false:=by
  unfold Ay at h;repeat' (split at h<;>try (simp_all;done))
 clear h;obtain⟨h1,h2,h3,h4,h5⟩:=hs;go_enter Tryz.func149,Tryz.ntmps149;go_wp2;go_ret2
 exact⟨rfl,rfl⟩
theorem Bu(s:Int)(lo hi:Int)(b:Bool)(w:World)(h:within s=(lo,hi,b)) :
  Calls Tryz.prog 180 #[.int .u8 s] w fun e w'=>e=.returned (.tuple #[.int .u32 lo,.int .u32 hi,.bool b])∧w=w':=by
 have hs:(s=75∧lo=0∧hi=4294967295∧b=true)∨(s=66∧lo=0∧hi=31∧b=true)∨(s=77∧lo=1∧hi=4∧b=true)∨(s=79∧lo=0∧hi=3∧b=true)∨(s=87∧lo=0∧hi=1∧b=true) ∨
   ((s==75)=false∧(s==66)=false∧(s==77)=false∧(s==79)=false∧(s==87)=false∧lo=0∧hi=0∧b=false):=by
  unfold within at h;by_cases h1:s=75
  ·rw[if_pos h1]at h;cases h;simp[h1]
  by_cases h2:s=66
  ·rw[if_neg h1,if_pos h2]at h;cases h;simp[h2]
  by_cases h3:s=77
  ·rw[if_neg h1,if_neg h2,if_pos h3]at h;cases h;simp[h3]
  by_cases h4:s=79
  ·rw[if_neg h1,if_neg h2,if_neg h3,if_pos h4]at h;cases h;simp[h4]
  by_cases h5:s=87
  ·rw[if_neg h1,if_neg h2,if_neg h3,if_neg h4,if_pos h5]at h;cases h;simp[h5]
  rw[if_neg h1,if_neg h2,if_neg h3,if_neg h4,if_neg h5]at h;cases h;simp[h1,h2,h3,h4,h5]
 clear h;rcases hs with ⟨rfl,rfl,rfl,rfl⟩ |⟨rfl,rfl,rfl,rfl⟩ |⟨rfl,rfl,rfl,rfl⟩ |⟨rfl,rfl,rfl,rfl⟩ |⟨rfl,rfl,rfl,rfl⟩ |⟨h1,h2,h3,h4,h5,rfl,rfl,rfl⟩
 all_goals
  go_enter Tryz.func180,Tryz.ntmps180;go_wp2;go_ret3
  exact⟨rfl,rfl⟩
end
section
open Go Go.RowKit Go.Proofs.YtjjpiefgdggghaaGreatDoorW.PrintWords
section
variable {F:Fence} {n:Nat} {P:Program} {α:Type}
structure Calm {β:Type} (c:Nat) (I:β→World→Prop):Prop where
 below:∀ s W W',I s W→Below W.heap.size W W'→I s W'
 cell:∀ s W v,I s W→I s (W.setCell ⟨c,0,none⟩ v)
def Nd(F:Fence)(n:Nat)(P:Program)(g:Nat)(lb:Array Value)(enc:α→Value)(c:Nat)(S Sp:List α→Prop)(w:World):Prop :=
 ∀ (l:Nat) (J Jx:List α→World→Prop) (W:World),Below w.heap.size w W→Calm c J→Calm c Jx →
  (∀ pre x W1,Sp (pre++[x])→J pre W1→YieldAt F (n-1) P l #[enc x] W1 fun e W2 =>
   (e=.returned (.bool true)∧J (pre++[x]) W2∧W2.heap[c]?=W1.heap[c]?)∨(e=.returned (.bool false)∧Jx (pre++[x]) W2)) →
  J [] W →
  CallsIn F n P g (#[.func (.yield l) #[] #[]]++lb) W fun e W2=>(∃ v,e=.returned v)∧((∃ xs,S xs∧J xs W2)∨(∃ pre,Sp pre∧Jx pre W2))
def Se(B c:Nat)(I Ix:List α→World→Prop)(xs:List α)(W:World):Exit→Act→World→Prop
 |.normal,_,W2=>KeepsFrom B W W2∧W2.heap[c]?=W.heap[c]?∧I xs W2
 |.ret,_,W2=>KeepsFrom B W W2∧Ix xs W2
 |_,_,_=>False
theorem Em{W:World}{l c:Nat}{o:Obj}(h:c≠l):(W.putObj l o).heap[c]?=W.heap[c]?:=World.putObj_heap_other h
theorem NN{g:Operand}{p:Tmp}{assign body:Code}{Q:Exit→Act→World→Prop}{a:Act}{w:World}
  (hro:F.round=none)(h1:1≤n){gf:Nat}{lb:Array Value}(hg:a.eval g=.func (.func gf) #[] lb)(hFg:F.fn gf)(eg:∀ args w,(callFunc gf args).run P w=.ok (.enter gf args) w)
  {enc:α→Value}{c:Nat}{S Sp:List α→Prop}(hc:c<w.heap.size)(hseq:Nd F (n-1) P gf lb enc c S Sp w)
  (I Ix:List α→World→Prop)(hI:Calm c I)(hIx:Calm c Ix)
  (hIp:∀ s W l o o',I s W→w.heap.size≤l→W.heap[l]?=some o→o.isCells=false→I s (W.putObj l o'))
  (hIxp:∀ s W l o o',Ix s W→w.heap.size≤l→W.heap[l]?=some o→o.isCells=false→Ix s (W.putObj l o'))
  (h0:I [] w)(a₁:α→Act)
  (hassign:∀ (l:Nat) (x:α) (W:World) (K:Act→World→Prop),K (a₁ x) W →
   assign.wpIn (F.inRound l) (n-1-1) P (Exit.then K (fun _ _ _=>False)) {tmps:=(#[p].zip #[enc x]).foldl (fun t (p,v)=>t.setIfInBounds p v) a.tmps,defers:=[]} W)
  (hbody:∀ (l:Nat) (pre:List α) (x:α) (W:World),Sp (pre++[x])→I pre W→body.wpIn (F.inRound l) (n-1-1) P (Se w.heap.size c I Ix (pre++[x]) W) (a₁ x) W)
  (hdone:∀ (D:Nat) (xs:List α) (W:World),w.heap.size≤D→S xs→I xs W→W.heap[D]?=some (.deferred (some []))→Q .normal {a with defers:={target:=.collected D,args:=#[]}::a.defers} W)
  (hstop:∀ (D:Nat) (pre:List α) (W:World),w.heap.size≤D→Sp pre→Ix pre W→W.heap[D]?=some (.deferred (some []))→Code.ret.wpIn F n P Q {a with defers:={target:=.collected D,args:=#[]}::a.defers} W) :
  (Code.rangeFunc g #[p] assign body).wpIn F n P Q a w:=by
 refine wpIn_rangeFunc fun fn hfn=>?_
 rw[hro]
 let rec_:LoopState→Option Code→Loop:=fun st pe=>{state:=st,pending:=pe,fn,tmps:=a.tmps,params:=#[p],assign,body,defers:=w.heap.size}
 have hrec:∀ st pe,rec_ st pe={state:=st,pending:=pe,fn,tmps:=a.tmps,params:=#[p],assign,body,defers:=w.heap.size}:=fun _ _=>rfl
 generalize rec_=rec at hrec;have hD0:(w.alloc (.deferred (some []))).heap[w.heap.size]?=some (.deferred (some [])):=Bv w _;have hW1:((w.alloc (.deferred (some []))).alloc (.loop (rec .ready none))).heap[w.heap.size+1]?=some (.loop (rec .ready none)):=by
  have:=Bv (w.alloc (.deferred (some []))) (.loop (rec .ready none))
  rwa [World.size_alloc]at this
 have hD1:((w.alloc (.deferred (some []))).alloc (.loop (rec .ready none))).heap[w.heap.size]?=some (.deferred (some [])):=AZ hD0 _;have hB1:Below w.heap.size w ((w.alloc (.deferred (some []))).alloc (.loop (rec .ready none))):=((Below.refl _ w).alloc (Nl _) _).alloc (by simp) _;have hI1:I [] ((w.alloc (.deferred (some []))).alloc (.loop (rec .ready none))):=hI.below _ _ _ h0 hB1;refine⟨w.heap.size+1,[{target:=.collected w.heap.size,args:=#[]}],(w.alloc (.deferred (some []))).alloc (.loop (rec .ready none)),{target:=.fn (.func gf) lb,args:=#[.func (.yield (w.heap.size+1)) #[] #[]]},
  (w.alloc (.deferred (some []))).alloc (.loop (rec .ready none)),gf,#[.func (.yield (w.heap.size+1)) #[] #[]]++lb,(w.alloc (.deferred (some []))).alloc (.loop (rec .ready none)),?_,?_,?_,?_,fun _=>h1,?_⟩
 ·rw[hrec];exact run_enterLoop_outer _ _ _ _ _
 ·simp only[resolve,hg];simp[go_sem]
 ·intro f' hf';simp[Target.leads]at hf';subst hf';exact hFg
 ·simp[invoke,go_sem,eg]
 have hkeep:∀ {W W2:World} {o:Obj} {k:Nat},W.heap[k]?=some o→Below W.heap.size W W2→W2.heap[k]?=some o:=fun h hb=>Bk hb h
 have hfar:∀ {W:World} {o:Obj} {k:Nat} (v:Value),w.heap.size≤k→W.heap[k]?=some o→(W.setCell ⟨c,0,none⟩ v).heap[k]?=some o:=fun v hk h =>
  (Below.heap_setCell _ ⟨c,0,none⟩ v _ (show _≠c by omega)).trans h
 refine(hseq (w.heap.size+1)
  (fun pre W=>I pre W∧W.heap[w.heap.size+1]?=some (.loop (rec .ready none))∧W.heap[w.heap.size]?=some (.deferred (some [])))
  (fun pre W=>Ix pre W∧W.heap[w.heap.size+1]?=some (.loop (rec .done (some .ret)))∧W.heap[w.heap.size]?=some (.deferred (some [])))
  _ hB1
  ⟨fun s W W2 h hb=>⟨hI.below _ _ _ h.1 hb,hkeep h.2.1 hb,hkeep h.2.2 hb⟩,fun s W v h=>⟨hI.cell _ _ _ h.1,hfar v (by omega) h.2.1,hfar v (by omega) h.2.2⟩⟩
  ⟨fun s W W2 h hb=>⟨hIx.below _ _ _ h.1 hb,hkeep h.2.1 hb,hkeep h.2.2 hb⟩,fun s W v h=>⟨hIx.cell _ _ _ h.1,hfar v (by omega) h.2.1,hfar v (by omega) h.2.2⟩⟩
  ?round ⟨hI1,hW1,hD1⟩).mono ?after
 case round =>
  rintro pre x W hsp ⟨hi,hl,hd⟩;have hlt:w.heap.size+1<W.heap.size:=Bl hl;have hy:=run_yield (P:=P) (args:=#[enc x]) hl (by rw[hrec];rfl);rw[hrec]at hy;refine⟨fn,_,assign,body,hy,roundIn_of_wpIn hfn (hassign _ x W _ ⟨_,run_beginRound hl (by rw[hrec]),?_⟩)⟩;obtain⟨busy,hbusy⟩:∃ b:Obj,b=.loop {rec .ready none with state:=.busy}:=⟨_,rfl⟩
  rw[←hbusy];have hl2:(W.putObj (w.heap.size+1) busy).heap[w.heap.size+1]?=some busy:=World.putObj_heap_same hlt;have hd2:(W.putObj (w.heap.size+1) busy).heap[w.heap.size]?=some (.deferred (some [])):=(Em (by omega)).trans hd;have hc2:(W.putObj (w.heap.size+1) busy).heap[c]?=W.heap[c]?:=Em (by omega);have hnb:busy.isCells=false:=by rw[hbusy];rfl
  refine wpIn_mono (hbody _ pre x _ hsp (hIp _ _ _ _ _ hi (by omega) hl rfl)) ?_;rintro e a3 W3 hp;have fin:∀ (jump:Option Code),KeepsFrom w.heap.size (W.putObj (w.heap.size+1) busy) W3 →
    (Instr.endRound (w.heap.size+1) jump).run P W3=.ok (.bool jump.isNone) (W3.putObj (w.heap.size+1) (.loop (rec (if jump.isNone then .ready else .done) jump))) ∧
    W3.heap[w.heap.size+1]?=some busy ∧
    (W3.putObj (w.heap.size+1) (.loop (rec (if jump.isNone then .ready else .done) jump))).heap[w.heap.size+1]?=some (.loop (rec (if jump.isNone then .ready else .done) jump)) ∧
    (W3.putObj (w.heap.size+1) (.loop (rec (if jump.isNone then .ready else .done) jump))).heap[w.heap.size]?=some (.deferred (some [])):=fun jump hk3=>by
   have hl3:=hk3.same _ _ (by omega) hl2 hnb;have hd3:=hk3.same _ _ (Nl _) hd2 rfl;have hr:=hl3;rw[hbusy]at hr;have:=run_endRound (P:=P) jump hr;rw[hrec]at this ⊢;exact⟨this,hl3,World.putObj_heap_same (Bl hl3),(Em (by omega)).trans hd3⟩
  cases e with
  |normal =>
   obtain⟨hk3,hc3,hi3⟩:=hp;obtain⟨hr,hl3,hl4,hd4⟩:=fin none hk3;exact⟨_,_,hr,.inl ⟨rfl,⟨hIp _ _ _ _ _ hi3 (by omega) hl3 hnb,hl4,hd4⟩,(Em (by omega)).trans (hc3.trans hc2)⟩⟩
  |ret =>
   obtain⟨hk3,hi3⟩:=hp;obtain⟨hr,hl3,hl4,hd4⟩:=fin (some .ret) hk3;exact⟨_,_,hr,.inr ⟨rfl,hIxp _ _ _ _ _ hi3 (by omega) hl3 hnb,hl4,hd4⟩⟩
  |exit id=>exact hp.elim
  |goto t=>exact hp.elim
  |panic ch=>exact hp.elim
  |outgrown=>exact hp.elim
 case after =>
  rintro e W2 ⟨⟨v,rfl⟩,(⟨xs,hS,hi,hl,hd⟩ |⟨pre,hSp,hi,hl,hd⟩)⟩
  ·have he:=run_endLoop (P:=P) hl (by rw[hrec];simp);rw[hrec]at he;exact⟨none,_,he,hdone _ xs _ (Nl _) hS (hIp _ _ _ _ _ hi (by omega) hl rfl) ((Em (by omega)).trans hd)⟩
  ·have he:=run_endLoop (P:=P) hl (by rw[hrec];simp);rw[hrec]at he;exact⟨some .ret,_,he,hstop _ pre _ (Nl _) hSp (hIxp _ _ _ _ _ hi (by omega) hl rfl) ((Em (by omega)).trans hd)⟩
end
end
section
theorem Gj{α:Type}{motive:List α→Prop}(h0:motive [])(h1:∀ l x,motive l→motive (l++[x]))(l:List α):motive l:=by
 have:∀ l:List α,motive l.reverse:=by
  intro l;induction l with
  |nil=>exact h0
  |cons x l ih=>rw[List.reverse_cons];exact h1 _ _ ih
 have:=this l.reverse
 rwa [List.reverse_reverse]at this
abbrev D5:=Nat×Nat
def Cm(l:List D5)(t:Nat):Nat:=l.foldl (fun k x=>if x.2=t then x.1 else k) 0
def Lx(k:Nat):Nat:=if k=1 then 1 else if k=2 then 2 else if k=3 then 3 else if k=4 then 5 else if k=5 then 4 else if k=8 then 6 else if k=9 then 7 else 0
def DX(l:List D5)(t:Nat):Nat:=Lx (Cm l t)
def BP(l:List D5):List D5→List Nat
 |[]=>[]
 |x::r=>if x.1=2∧Cm l x.2=2∧Cm r x.2=0 then x.2::BP l r else BP l r
def Fs(l:List D5):List Nat:=BP l l
def NU(k:Nat):Bool:=k==3||k==4||k==6
def Dp(l:List D5):List D5→Int
 |[] => -1
 |x::r=>if NU (DX l x.2)=true then (x.2:Int) else Dp l r
def Ft(l:List D5):Int:=Dp l l.reverse
def C9(kind last:Nat)(head:Bool)(free:Bool):Bool :=
 if kind=1 then last==0||last==6||last==7||last==10
 else if kind=2∨kind=7 then last==1
 else if kind=3 then last==2&&head&&free
 else if kind=4 then last==2
 else if kind=5 then last==3
 else if kind=6 then last==4
 else if kind=8 then last==5
 else if kind=9 then last==8
 else if kind=10 then last==9
 else false
def Ez(n:Nat)(l:List D5)(x:D5):Bool:=decide (x.2<n)&&C9 x.1 (Cm l x.2) ((Fs l).head?==some x.2) (Ft l == -1)
def CH(n:Nat)(pre:List D5):List D5→Nat
 |[]=>pre.length
 |x::r=>if Ez n pre x=true then CH n (pre++[x]) r else pre.length
def Cn(n:Nat)(l:List D5):Nat:=if n<1∨n > 64 then 0 else CH n [] l
theorem E0(l:List D5)(x:D5)(t:Nat):Cm (l++[x]) t=if x.2=t then x.1 else Cm l t:=by
 simp[Cm,List.foldl_append]
theorem Gk(l:List D5)(x:D5)(hx:x.1≠0):∀ r:List D5,BP (l++[x]) (r++[x])=(BP l r).filter (· != x.2)++(if x.1=2 then [x.2] else [])
 |[]=>by
  simp[BP,E0];by_cases h:x.1=2<;>simp[h,Cm]
 |y::r=>by
  have ih:=Gk l x hx r;simp only[List.cons_append,BP,E0,ih];by_cases h:x.2=y.2
  ·have h':¬(y.1=2∧(if x.2=y.2 then x.1 else Cm l y.2)=2∧(if x.2=y.2 then x.1 else Cm r y.2)=0):=fun⟨_,_,e⟩=>by rw[if_pos h]at e;exact hx e
   rw[if_neg h'];by_cases h2:y.1=2∧Cm l y.2=2∧Cm r y.2=0
   ·rw[if_pos h2,List.filter_cons_of_neg (by simp[h])]
   ·rw[if_neg h2]
  ·rw[if_neg h,if_neg h];by_cases h2:y.1=2∧Cm l y.2=2∧Cm r y.2=0
   ·rw[if_pos h2,if_pos h2,List.filter_cons_of_pos (by simpa using fun e=>h e.symm),List.cons_append]
   ·rw[if_neg h2,if_neg h2]
theorem MF(l:List D5)(x:D5)(hx:x.1≠0):Fs (l++[x])=(Fs l).filter (· != x.2)++(if x.1=2 then [x.2] else []):=Gk l x hx l
theorem Gl(l:List D5):∀ r:List D5,Dp l r = -1↔∀ x∈r,NU (DX l x.2)=false
 |[]=>by simp[Dp]
 |x::r=>by
  have ih:=Gl l r;unfold Dp;by_cases h:NU (DX l x.2)=true
  ·rw[if_pos h];constructor
   ·intro e;omega
   ·intro e;rw[e x (List.mem_cons_self ..)]at h;cases h
  ·rw[if_neg h,ih];simp at h;simp[h]
theorem MG(l:List D5):Ft l = -1↔∀ x∈l,NU (DX l x.2)=false:=by
 rw[Ft,Gl];simp
theorem PM:∀ (l:List D5) (t:Nat),(∀ x∈l,x.2≠t)→Cm l t=0:=by
 intro l t h;induction l using Gj with
 |h0=>rfl
 |h1 l x ih =>
  rw[E0,if_neg (h x (by simp)),ih (fun y hy=>h y (by simp[hy]))]
structure Dj where
 last:List Nat
 queue:List Nat
 ok:Bool
deriving DecidableEq
def Dj.new(n:Nat):Dj:=⟨List.replicate n 0,[],true⟩
def MH(k:Nat):Bool:=k==3||k==5||k==8
def Dj.fits(x:Dj)(kind t:Nat):Bool:=decide (t<x.last.length)&&C9 kind (x.last.getD t 0) (x.queue.head?==some t) (x.last.all (fun k=>!MH k))
def Dj.enter(x:Dj)(kind t:Nat):Dj :=
 ⟨x.last.set t kind,x.queue.filter (· != t)++(if kind=2 then [t] else []),x.ok&&x.fits kind t⟩
def Dj.of(n:Nat)(l:List D5):Dj:=l.foldl (fun x e=>x.enter e.1 e.2) (Dj.new n)
theorem Dj.EH(n:Nat)(l:List D5)(e:D5):Dj.of n (l++[e])=(Dj.of n l).enter e.1 e.2:=by simp[Dj.of,List.foldl_append]
theorem Dj.len(n:Nat)(l:List D5):(Dj.of n l).last.length=n:=by
 induction l using Gj with
 |h0=>simp[Dj.of,Dj.new]
 |h1 l x ih=>rw[Dj.EH];simp[Dj.enter,ih]
theorem Dj.IX(n:Nat)(l:List D5)(t:Nat)(ht:t<n):(Dj.of n l).last.getD t 0=Cm l t:=by
 induction l using Gj with
 |h0=>simp[Dj.of,Dj.new,Cm,ht]
 |h1 l x ih =>
  rw[Dj.EH,E0,←ih];have hl:=Dj.len n l;simp only[Dj.enter,List.getD_eq_getElem?_getD,List.getElem?_set];by_cases h:x.2=t
  ·rw[if_pos h,if_pos h,if_pos (by omega)];rfl
  ·rw[if_neg h,if_neg h]
theorem Dj.Rv(n:Nat)(l:List D5)(h:∀ x∈l,x.1≠0):(Dj.of n l).queue=Fs l:=by
 induction l using Gj with
 |h0=>rfl
 |h1 l x ih =>
  rw[Dj.EH,MF _ _ (h x (by simp)),←ih (fun y hy=>h y (by simp[hy]))];rfl
theorem KM(k:Nat):NU (Lx k)=MH k:=by
 unfold Lx MH;repeat' split
 all_goals first |(subst_vars;rfl) |skip
 rw[show(k==3)=false from Bq (by assumption),show(k==5)=false from Bq (by assumption),show(k==8)=false from Bq (by assumption)];rfl
theorem Dj.Rw(n:Nat)(l:List D5)(h:∀ x∈l,x.2<n):(Dj.of n l).last.all (fun k=>!MH k)=(Ft l == -1):=by
 rw[Bool.eq_iff_iff,List.all_eq_true,beq_iff_eq,MG];constructor
 ·intro h1 x hx;have h2:=h x hx;have h3:=h1 ((Dj.of n l).last.getD x.2 0) (by
   rw[List.getD_eq_getElem?_getD,List.getElem?_eq_getElem (by rw[Dj.len];exact h2)];exact List.getElem_mem _)
  rw[Dj.IX n l _ h2]at h3;rw[DX,KM]
  simpa using h3
 ·intro h1 k hk;obtain⟨t,ht,rfl⟩:=List.mem_iff_getElem.1 hk;have ht':t<n:=by rw[Dj.len]at ht;exact ht
  have e:(Dj.of n l).last[t]=Cm l t:=by rw[←Dj.IX n l t ht',List.getD_eq_getElem?_getD,List.getElem?_eq_getElem ht];rfl
  rw[e];by_cases hx:∃ x∈l,x.2=t
  ·obtain⟨x,hx,rfl⟩:=hx;have:=h1 x hx;rw[DX,KM]at this;simp[this]
  ·rw[PM l t (fun x hx2 e=>hx ⟨x,hx2,e⟩)];rfl
theorem Rx{kind last:Nat}{a b:Bool}(h:C9 kind last a b=true):kind≠0:=by
 intro e;subst e;simp[C9]at h
def JA(n:Nat)(l:List D5):Prop:=∀ a x b,l=a++x::b→Ez n a x=true
theorem KN(n:Nat):JA n []:=fun a x b e=>by cases a with
 |nil=>cases e
 |cons y a=>cases e
theorem JB{n:Nat}{l:List D5}{x:D5}:JA n (l++[x])↔JA n l∧Ez n l x=true:=by
 constructor
 ·intro h;exact⟨fun a y b e=>h a y (b++[x]) (by rw[e];simp),h l x [] rfl⟩
 ·rintro⟨h1,h2⟩ a y b e;rcases List.eq_nil_or_concat b with rfl |⟨b',z,rfl⟩
  ·obtain⟨rfl,h⟩:=List.append_inj' e rfl;cases h;exact h2
  ·have e':l++[x]=(a++y::b')++[z]:=by rw[e];simp
   obtain⟨rfl,_⟩:=List.append_inj' e' rfl;exact h1 a y b' rfl
theorem PN{n:Nat}{l:List D5}(h:JA n l):∀ x∈l,x.2<n∧x.1≠0:=by
 intro x hx;obtain⟨a,b,rfl⟩:=List.append_of_mem hx;have:=h a x b rfl;simp only[Ez,Bool.and_eq_true,decide_eq_true_eq]at this;exact⟨this.1,Rx this.2⟩
theorem Dj.U3(n:Nat)(l:List D5):(Dj.of n l).ok=true↔JA n l:=by
 induction l using Gj with
 |h0=>exact⟨fun _=>KN n,fun _=>rfl⟩
 |h1 l x ih =>
  rw[JB,Dj.EH,←ih];simp only[Dj.enter,Bool.and_eq_true];refine and_congr_right fun h=>?_
  have hg:=PN (ih.1 h);have e:(Dj.of n l).fits x.1 x.2=Ez n l x:=by
   unfold Dj.fits Ez;rw[Dj.len,Dj.Rv n l (fun y hy=>(hg y hy).2),Dj.Rw n l (fun y hy=>(hg y hy).1)];by_cases hx:x.2<n
   ·rw[Dj.IX n l _ hx]
   ·simp[hx]
  rw[e]
theorem GK(n:Nat):∀ (r pre:List D5),JA n pre→(CH n pre r=(pre++r).length↔JA n (pre++r))
 |[],pre,h=>by simp[CH,h]
 |x::r,pre,h=>by
  unfold CH;by_cases hx:Ez n pre x=true
  ·rw[if_pos hx];have:=GK n r (pre++[x]) (JB.2 ⟨h,hx⟩)
   simpa using this
  ·rw[if_neg hx];constructor
   ·intro e;simp at e
   ·intro e;exact absurd (e pre x r rfl) hx
theorem GZ(n:Nat)(h1:1≤n)(h2:n≤64)(l:List D5):Cn n l=l.length↔(Dj.of n l).ok=true:=by
 rw[Dj.U3];unfold Cn;rw[if_neg (by omega)];exact GK n l [] (KN n)
def Cb{α:Type}(f:Nat→α)(t:Nat)(v:α):Nat→α:=fun s=>if s=t then v else f s
theorem AT{α:Type}(f:Nat→α)(t:Nat)(v:α):Cb f t v t=v:=if_pos rfl
theorem BR{α:Type}(f:Nat→α){t s:Nat}(v:α)(h:s≠t):Cb f t v s=f s:=if_neg h
theorem T6{α:Type}(f:Nat→α)(t:Nat)(v u:α):Cb (Cb f t v) t u=Cb f t u:=by
 funext s;unfold Cb;split<;>rfl
structure Db (n:Nat) (x:Dj) (last:Nat→Nat) (q:List Nat):Prop where
 ok:x.ok=true
 len:x.last.length=n
 last:∀ t,t<n→x.last.getD t 0=last t
 q:x.queue=q
theorem Db.new(n:Nat):Db n (Dj.new n) (fun _=>0) []:=⟨rfl,by simp[Dj.new],fun t ht=>by simp[Dj.new,ht],rfl⟩
theorem Db.congr{n:Nat}{x:Dj}{last last':Nat→Nat}{q:List Nat}(h:Db n x last q)(e:∀ t,t<n→last t=last' t):Db n x last' q :=
 ⟨h.ok,h.len,fun t ht=>(h.last t ht).trans (e t ht),h.q⟩
theorem I1{q:List Nat}{t:Nat}(h:t∉q):q.filter (· != t)=q :=
 List.filter_eq_self.2 fun a ha=>by
  have:a≠t:=fun e=>h (e▸ha)
  simpa using this
section
variable {n:Nat} {x:Dj} {last:Nat→Nat} {q:List Nat} {t:Nat}
theorem Db.enter(h:Db n x last q)(ht:t<n)(k:Nat)(hk:C9 k (last t) (q.head?==some t) (x.last.all (fun k=>!MH k))=true) :
  Db n (x.enter k t) (Cb last t k) (q.filter (· != t)++(if k=2 then [t] else [])):=by
 refine⟨?_,?_,?_,?_⟩
 ·unfold Dj.enter Dj.fits;rw[h.ok,h.len,h.q,h.last t ht,hk]
  simpa using ht
 ·simp[Dj.enter,h.len]
 ·intro s hs;have:=h.last s hs;simp only[Dj.enter,List.getD_eq_getElem?_getD,List.getElem?_set]at this ⊢;by_cases e:s=t
  ·subst e;rw[if_pos rfl,if_pos (by rw[h.len];exact hs),AT];rfl
  ·rw[if_neg (fun e'=>e e'.symm),BR _ _ e];exact this
 ·simp[Dj.enter,h.q]
theorem Db.plain(h:Db n x last q)(ht:t<n)(hq:t∉q)(k:Nat)(h2:k≠2)(hk:∀ a b,C9 k (last t) a b=true):Db n (x.enter k t) (Cb last t k) q:=by
 have:=h.enter ht k (hk _ _)
 rwa [I1 hq,if_neg h2,List.append_nil]at this
theorem Db.call(h:Db n x last q)(ht:t<n)(hq:t∉q)(hl:last t=0∨last t=6∨last t=7∨last t=10):Db n (x.enter 1 t) (Cb last t 1) q :=
 h.plain ht hq 1 (by decide) fun a b=>by rcases hl with e |e |e |e<;>simp[C9,e]
theorem Db.WX(h:Db n x last q)(ht:t<n)(hq:t∉q)(hl:last t=1):Db n (x.enter 2 t) (Cb last t 2) (q++[t]):=by
 have:=h.enter ht 2 (by simp[C9,hl])
 rwa [I1 hq,if_pos rfl]at this
theorem Db.VE(h:Db n x last (t::q))(ht:t<n)(hq:t∉q)(hl:last t=2)(ho:∀ s,s<n→MH (last s)=false):Db n (x.enter 3 t) (Cb last t 3) q:=by
 have hall:x.last.all (fun k=>!MH k)=true:=by
  rw[List.all_eq_true];intro k hk;obtain⟨s,hs,rfl⟩:=List.mem_iff_getElem.1 hk;have:=h.last s (by rw[←h.len];exact hs);rw[List.getD_eq_getElem?_getD,List.getElem?_eq_getElem hs]at this;rw[show x.last[s]=last s from this,ho s (by rw[←h.len];exact hs)];rfl
 have:=h.enter ht 3 (by simp[C9,hl,hall]);rw[if_neg (by decide),List.append_nil,List.filter_cons_of_neg (by simp),I1 hq]at this;exact this
theorem Db.Fb(h:Db n x last q)(ht:t<n)(hq:t∉q)(hl:last t=3):Db n (x.enter 5 t) (Cb last t 5) q :=
 h.plain ht hq 5 (by decide) fun a b=>by simp[C9,hl]
theorem Db.full(h:Db n x last q)(ht:t<n)(hq:t∉q)(hl:last t=1):Db n (x.enter 7 t) (Cb last t 7) q :=
 h.plain ht hq 7 (by decide) fun a b=>by simp[C9,hl]
theorem Db.unlock(h:Db n x last q)(ht:t<n)(hq:t∉q)(hl:last t=5):Db n (x.enter 8 t) (Cb last t 8) q :=
 h.plain ht hq 8 (by decide) fun a b=>by simp[C9,hl]
theorem Db.release(h:Db n x last q)(ht:t<n)(hq:t∉q)(hl:last t=8):Db n (x.enter 9 t) (Cb last t 9) q :=
 h.plain ht hq 9 (by decide) fun a b=>by simp[C9,hl]
theorem Db.over(h:Db n x last q)(ht:t<n)(hq:t∉q)(hl:last t=9):Db n (x.enter 10 t) (Cb last t 10) q :=
 h.plain ht hq 10 (by decide) fun a b=>by simp[C9,hl]
end
end
section
open Go.RowKit Go.Proofs.YtjjpiefgdggghaaGreatDoorW.PrintWords
structure BX (B:Nat) (Ts:List TypeId) (M:Nat→Prop) (w w':World):Prop where
 os:w'.os=w.os
 tape:w'.tape=w.tape
 output:w'.output=w.output
 size:w.heap.size≤w'.heap.size
 block:∀ k,k<w.heap.size→(k<B∨(¬M k∧∀ cs t fr,w.heap[k]?=some (.cells cs t fr)→t∉Ts))→w'.heap[k]?=w.heap[k]?
section
variable {B:Nat} {Ts Ts':List TypeId} {M:Nat→Prop} {a w w':World}
theorem BX.refl(B:Nat)(Ts:List TypeId)(M:Nat→Prop)(w:World):BX B Ts M w w:=⟨rfl,rfl,rfl,Nl _,fun _ _ _=>rfl⟩
theorem BX.trans{b c:World}(h:BX B Ts M a b)(k:BX B Ts M b c):BX B Ts M a c :=
 ⟨k.os.trans h.os,k.tape.trans h.tape,k.output.trans h.output,Nat.le_trans h.size k.size,fun i hi hc=>by
  have e:=h.block i hi hc;rw[k.block i (Nat.lt_of_lt_of_le hi h.size) (hc.imp id fun⟨h1,h2⟩=>⟨h1,fun cs t fr ht=>h2 cs t fr (by rw[←e];exact ht)⟩),e]⟩
theorem BX.mono(h:BX B Ts M w w')(hs:∀ t∈Ts,t∈Ts'):BX B Ts' M w w' :=
 ⟨h.os,h.tape,h.output,h.size,fun k hk hc=>h.block k hk (hc.imp id fun⟨h1,h2⟩=>⟨h1,fun cs t fr ht hm=>h2 cs t fr ht (hs t hm)⟩)⟩
theorem BX.Cj(h:Below w.heap.size w w'):BX B Ts M w w':=⟨h.os,h.tape,h.output,h.size,fun k hk _=>h.block k hk⟩
theorem BX.below(h:BX B Ts M w w')(hB:B≤w.heap.size):Below B w w':=⟨h.os,h.tape,h.output,h.size,fun k hk=>h.block k (by omega) (.inl hk)⟩
theorem BX.set(h:BX B Ts M a w){p:Addr}{cs:Array Value}{t:TypeId}{fr:Nat×Nat}(hp:w.heap[p.block]?=some (.cells cs t fr))(ht:t∈Ts)(hB:B≤p.block)(v:Value):BX B Ts M a (w.setCell p v) :=
 h.trans ⟨rfl,rfl,rfl,by simp[World.setCell],fun k hk hc=>Below.heap_setCell _ _ _ _ fun e=>by
  subst e;rcases hc with hc |⟨_,hc⟩
  ·omega
  ·exact hc cs t fr hp ht⟩
theorem BX.grown(h:BX B Ts M a w){e:TypeId}{size n:Nat}{v:Value}{xs:List Value}(ho:w.ownsRow B e size v n xs)(ht:e∈Ts)(hg:w.grownBy w' v.ownBlock):BX B Ts M a w' :=
 h.trans ⟨hg.os,hg.tape,hg.output,hg.size,fun k hk hc=>hg.block k hk fun e1=>by
  rcases ho.2 with ⟨rfl,_⟩ |⟨g,cap,cur,rfl,hb,hh,_⟩
  ·cases e1
  ·have:k=g:=by simpa [Value.ownBlock]using e1
   subst this;rcases hc with hc |⟨_,hc⟩
   ·omega
   ·exact hc cur e (0,0) hh ht⟩
theorem BX.then(h:BX B Ts M a w)(k:Below w.heap.size w w'):BX B Ts M a w':=h.trans (BX.Cj k)
theorem BX.drew(h:BX B Ts M a w):BX B Ts M a w.drew:=⟨h.os,h.tape,h.output,h.size,h.block⟩
theorem BX.FP(h:BX B Ts M w w'){g:Nat}{cs:Array Value}{t:TypeId}{fr:Nat×Nat}(hg:w.heap[g]?=some (.cells cs t fr))(ht:t∉Ts)(hm:¬M g):w'.heap[g]?=some (.cells cs t fr) :=
 (h.block g (Bl hg) (.inr ⟨hm,fun cs' t' fr' he=>by rw[hg]at he;cases he;exact ht⟩)).trans hg
theorem BX.own(h:BX B Ts M w w'){base:Nat}{e:TypeId}{size n:Nat}{v:Value}{xs:List Value}(ho:w.ownsRow base e size v n xs)(ht:e∉Ts)(hm:∀ k,v.ownBlock=some k→¬M k):w'.ownsRow base e size v n xs:=by
 refine Om ho fun k hk=>?_
 rcases ho.2 with ⟨rfl,_⟩ |⟨g,cap,cur,rfl,hb,hh,_⟩
 ·cases hk
 ·have:k=g:=by simpa [Value.ownBlock]using hk.symm
  subst this;exact(h.FP hh ht (hm k hk)).trans hh.symm
end
theorem Dk{W:World}{base:Nat}{e:TypeId}{size n g c:Nat}{xs:List Value}(h:W.ownsRow base e size (.slice (some ⟨g,0,none⟩) n c) n xs)(j:Nat)(hj:j<n*size)(u:Value) :
  (W.setCell ⟨g,j,none⟩ u).ownsRow base e size (.slice (some ⟨g,0,none⟩) n c) n (xs.set j u):=by
 obtain⟨h1,h2⟩:=h;refine⟨by rw[List.length_set];exact h1,?_⟩;rcases h2 with ⟨e1,_⟩ |⟨g',cap,cur,e1,hg,hh,hc,hm,hs,ht⟩
 ·cases e1
 ·cases e1;refine .inr ⟨g,c,cur.set! j u,rfl,hg,?_,hc,hm,by simpa using hs,?_⟩
  ·simpa using Bs hh j u
  ·rw[←ht];simp[List.take_set]
end
end Go.Proofs.YtjjpiefgdggghaaGreatDoor

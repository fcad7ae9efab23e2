/- Parts: Env. -/
import Derived.Test.YtjjpiefgdggghaaGreatDoorK02
import Derived.Test.YtjjpiefgdggghaaGreatDoorK03
import Derived.Lib.Strings
import Derived.Maps.AppendAt
set_option linter.unusedVariables false
set_option linter.unusedSimpArgs false
set_option maxRecDepth 100000
set_option maxHeartbeats 40000000
namespace Go.Proofs.YtjjpiefgdggghaaGreatDoor
section
open Go.RowKit Go.Proofs.YtjjpiefgdggghaaGreatDoorW.PrintWords
structure Env (w:World):Prop where
 shaped:w.ShapedOpen Tryz.prog
 tab:Lib.TabIs Tryz.prog w "internal/strconv.uint64pow10" .u64 Lib.pow10Tab
 syn:∃ tp p,w.var? Tryz.prog "strconv.ErrSyntax" = some #[.iface tp p]
 rng:∃ tp p,w.var? Tryz.prog "strconv.ErrRange" = some #[.iface tp p]
theorem LJ{P:Program}{w w':World}{n:String}{cs:Array Value}(hb:Below w.heap.size w w')(h:w.var? P n=some cs):w'.var? P n=some cs:=by
 unfold World.var? at h ⊢;cases hg:P.globalNamed n with
 |none=>rw[hg]at h;cases h
 |some g =>
  rw[hg]at h;simp only[Option.bind_some]at h ⊢;have hlt:g<w.heap.size:=by
   cases hh:w.heap[g]? with
   |none=>rw[hh]at h;cases h
   |some o=>exact Bl hh
  rw[hb.block g hlt];exact h
theorem Env.below{w w':World}(h:Env w)(hb:Below w.heap.size w w'):Env w' :=
 ⟨h.shaped.keptBut (hb.frame (fun _=>False)) (fun _ x=>x.elim),LJ hb h.tab,h.syn.imp fun _ x=>x.imp fun _ y=>LJ hb y,h.rng.imp fun _ x=>x.imp fun _ y=>LJ hb y⟩
end
section
open Go.RowKit
theorem toList_mk(l:List UInt8):(⟨l.toArray⟩:ByteArray).toList=l:=by rw[ByteArray.toList_eq]
theorem Ea(l:List UInt8)(a b:Nat):(⟨l.toArray⟩:ByteArray).extract a b=⟨((l.drop a).take (b-a)).toArray⟩:=by
 have h:=Lib.extract_data ⟨l.toArray⟩ a b;have e:∀ x:ByteArray,x=⟨x.data.toList.toArray⟩:=fun x=>by cases x;simp
 rw[e (ByteArray.extract _ _ _),h]
theorem BJ{s:ByteArray}{l':List UInt8}(h:s=⟨l'.toArray⟩):Ending.returned (.string s)=.returned (.string ⟨l'.toArray⟩):=by rw[h]
theorem Sk{k:IntKind}{a b:Int}(h:a=b):Ending.returned (.int k a)=.returned (.int k b):=by rw[h]
theorem BV(a b:List UInt8):(⟨a.toArray⟩:ByteArray)++⟨b.toArray⟩=⟨(a++b).toArray⟩:=by
 have e:∀ x:ByteArray,x=⟨x.data.toList.toArray⟩:=fun x=>by cases x;simp
 rw[e (HAppend.hAppend _ _),ByteArray.data_append];simp
end
section
open Go.RowKit Go.Proofs.YtjjpiefgdggghaaGreatDoorW.PrintWords
def BZ(w:World)(g:Nat)(e:TypeId)(l:List UInt8):Prop :=
 ∃ cs fr,w.heap[g]?=some (.cells cs e fr)∧∀ j,j<l.length→w.cell? ⟨g,j,none⟩=some (.int .u8 ((l.getD j 0).toNat:Int))
theorem LK(W:World)(e:TypeId)(s:ByteArray):∃ cs fr,(Lib.bytesWorld W e s).heap[W.heap.size]?=some (.cells cs e fr):=by
 unfold Lib.bytesWorld World.freeze;have h:(W.drew.alloc (.cells (Lib.bytesCells W e s) e)).heap[W.heap.size]?=some (.cells (Lib.bytesCells W e s) e):=(MapKept.heap_alloc W.drew (.cells (Lib.bytesCells W e s) e)).1;simp only[Nat.one_ne_zero,if_false,Array.getElem?_modify,if_true,h,Option.map_some];exact⟨_,_,rfl⟩
theorem BZ.new(W:World)(e:TypeId)(l:List UInt8)(g:Nat)(hg:W.heap.size=g)(hs:l.length≤9223372036854775807):BZ (Lib.bytesWorld W e ⟨l.toArray⟩) g e l:=by
 obtain⟨cs,fr,h⟩:=LK W e ⟨l.toArray⟩;refine⟨cs,fr,by rw[←hg];exact h,fun j hj=>?_⟩;exact L0 (IL W e l g hg hs) j hj
theorem BZ.Rq{w w':World}{g:Nat}{e:TypeId}{l:List UInt8}(h:BZ w g e l)(hk:w'.heap[g]?=w.heap[g]?):BZ w' g e l:=by
 obtain⟨cs,fr,h1,h2⟩:=h;exact⟨cs,fr,hk.trans h1,fun j hj=>(World.cell?_of_block (w:=w) (a:=⟨g,j,none⟩) hk).trans (h2 j hj)⟩
theorem BZ.lt{w:World}{g:Nat}{e:TypeId}{l:List UInt8}(h:BZ w g e l):g<w.heap.size:=by
 obtain⟨cs,fr,h1,_⟩:=h;exact Bl h1
theorem BZ.keep{w w':World}{g:Nat}{e:TypeId}{l:List UInt8}(h:BZ w g e l)(hb:Below w.heap.size w w'):BZ w' g e l :=
 h.Rq (hb.block g h.lt)
theorem BZ.grown{w w':World}{g:Nat}{e:TypeId}{l:List UInt8}{row:Option Nat}(h:BZ w g e l)(hg:w.grownBy w' row)(hne:some g≠row):BZ w' g e l :=
 h.Rq (hg.block g h.lt hne)
theorem BZ.set{w:World}{g:Nat}{e:TypeId}{l:List UInt8}(h:BZ w g e l){p:Addr}(hp:g≠p.block)(v:Value):BZ (w.setCell p v) g e l :=
 h.Rq (Below.heap_setCell w p v g hp)
theorem Oa{w:World}{base:Nat}{e t:TypeId}{size n g:Nat}{v:Value}{xs:List Value}{cs:Array Value}{fr:Nat×Nat}(h:w.ownsRow base e size v n xs)(hg:w.heap[g]?=some (.cells cs t fr))(hne:e≠t):some g≠v.ownBlock:=by
 intro he;obtain⟨_,h⟩:=h;rcases h with ⟨rfl,_⟩ |⟨g',cap,cur,rfl,_,hh,_⟩
 ·cases he
 ·have:g=g':=by simpa [Value.ownBlock]using he
  subst this;rw[hg]at hh;cases hh;exact hne rfl
theorem BZ.own{w:World}{base:Nat}{e t:TypeId}{size n g:Nat}{v:Value}{xs:List Value}{l:List UInt8}(hb:BZ w g t l)(h:w.ownsRow base e size v n xs)(hne:e≠t):some g≠v.ownBlock:=by
 obtain⟨cs,fr,h1,_⟩:=hb;exact Oa h h1 hne
theorem EA:(Tryz.prog.info? 3).map (fun i=>(i.zero,i.size,i.bytes))=some (some (.int .i64 0),1,8):=by kernel_rfl
def Bo(W:World)(base:Nat)(v:Value)(xs:List Int):Prop:=W.ownsRow base 3 1 v xs.length (xs.map (Value.int .i64))
theorem Bo.nil(W:World)(base:Nat):Bo W base (.slice none 0 0) []:=⟨rfl,.inl ⟨rfl,rfl⟩⟩
theorem Bo.cell{W:World}{base:Nat}{v:Value}{xs:List Int}(h:Bo W base v xs)(hn:0<xs.length) :
  ∃ g c,v=.slice (some ⟨g,0,none⟩) xs.length c∧xs.length≤c∧∀ j,j<xs.length→W.cell? ⟨g,j,none⟩=some (.int .i64 (xs.getD j 0)):=by
 obtain⟨h1,h2⟩:=h;rcases h2 with ⟨rfl,h0⟩ |⟨g,cap,cur,rfl,hg,hh,hc,hm,hs,ht⟩
 ·omega
 ·refine⟨g,cap,rfl,hc,fun j hj=>(Bc hh j).trans ?_⟩;have e:(cur.toList.take (xs.length*1))[j]?=(xs.map (Value.int .i64))[j]?:=by rw[ht]
  rw[List.getElem?_take_of_lt (by omega),Array.getElem?_toList]at e;rw[e];simp[List.getElem?_eq_getElem hj,List.getD_eq_getElem?_getD]
theorem Bo.slice{W:World}{base:Nat}{v:Value}{xs:List Int}(h:Bo W base v xs):∃ A c,v=.slice A xs.length c:=by
 rcases h.2 with ⟨rfl,h0⟩ |⟨g,cap,cur,rfl,_⟩
 ·exact⟨none,0,by rw[h0]⟩
 ·exact⟨_,_,rfl⟩
theorem Bo.move{W W1:World}{base:Nat}{v:Value}{xs:List Int}(h:Bo W base v xs)(hm:∀ k,v.ownBlock=some k→W1.heap[k]?=W.heap[k]?):Bo W1 base v xs:=Om h hm
theorem Bo.keep{W W1:World}{base:Nat}{v:Value}{xs:List Int}(h:Bo W base v xs)(hb:Below W.heap.size W W1):Bo W1 base v xs :=
 h.move fun k hk=>hb.block k (Ol h k hk)
structure EB (W:World) (base:Nat) (v:Value) (xs:List Int) (u:Value) (ys:List Int):Prop where
 a:Bo W base v xs
 b:Bo W base u ys
 ap:∀ k,v.ownBlock=some k→u.ownBlock≠some k
section
variable {W W1:World} {base:Nat} {v u:Value} {xs ys:List Int}
theorem EB.nil(W:World)(base:Nat):EB W base (.slice none 0 0) [] (.slice none 0 0) []:=⟨.nil _ _,.nil _ _,fun k hk=>by simp[Value.ownBlock]at hk⟩
theorem EB.keep(h:EB W base v xs u ys)(hb:Below W.heap.size W W1):EB W1 base v xs u ys:=⟨h.a.keep hb,h.b.keep hb,h.ap⟩
theorem EB.swap(h:EB W base v xs u ys):EB W base u ys v xs:=⟨h.b,h.a,fun k hk e=>h.ap k e hk⟩
theorem EB.set{p:Addr}{cs:Array Value}{t:TypeId}(h:EB W base v xs u ys)(hp:W.heap[p.block]?=some (.cells cs t (0,0)))(ht:3≠t)(x:Value):EB (W.setCell p x) base v xs u ys :=
 ⟨h.a.move fun k hk=>Below.heap_setCell W p x k (fun e=>Oa h.a hp ht (by rw[hk,e])),h.b.move fun k hk=>Below.heap_setCell W p x k (fun e=>Oa h.b hp ht (by rw[hk,e])),h.ap⟩
end
section
variable {ops:Array Oper} {rest:List Oper} {o:Oper} {a:Act} {Q:Exit→Act→World→Prop} {W:World}
theorem NU(hgd:o.guard=none)(s x:Operand)(ho:o.op=.call {callee:=.builtin .append,args:=#[s,x],argTypes:=#[26,26]})
  (base g:Nat)(y:Int)(v:Value)(xs:List Int)(hs:a.eval s=v)(hr:Bo W base v xs)(hx:a.eval x=.slice (some ⟨g,0,none⟩) 1 1)
  (hy:W.heap[g]?=some (.cells #[.int .i64 y] 3 (0,0)))(hl:xs.length≤1000000)(hb:base≤W.heap.size)
  (h:∀ v' W1,Bo W1 base v' (xs++[y])→W.grownBy W1 v.ownBlock→(v'.ownBlock=v.ownBlock∨v'.ownBlock=some W.heap.size)→wpList Tryz.prog ops Q rest (a.put o.dst v') W1) :
  wpList Tryz.prog ops Q (o::rest) a W:=by
 obtain⟨i9,hi,hz0,hz1,hz2⟩:=info_parts EA;refine wpList_append_own_at _ hgd s x 26 ho base 3 i9 (.int .i64 0) 1 8 Tryz.underlying26 hi hz0 hz1 hz2 rfl (by decide) v xs.length (xs.map (Value.int .i64)) hs hr ⟨g,0,none⟩ 1 1 [.int .i64 y] hx rfl ?_ ?_ ?_ ?_ hb ?_
 ·intro j u hj;rw[add_plain];exact(Bc hy j).trans (by simpa using hj)
 ·simp[Value.oneCell']
 ·simp[maxLen];omega
 ·omega
 ·intro v' w' h1 h2 _ h4;refine h v' w' ?_ h2 h4;unfold Bo;rw[List.map_append,List.length_append];exact h1
theorem KE(hgd:o.guard=none)(s x:Operand)(ho:o.op=.call {callee:=.builtin .append,args:=#[s,x],argTypes:=#[26,26]})
  (base g:Nat)(y:Int)(v u:Value)(xs ys:List Int)(hs:a.eval s=v)(hr:EB W base v xs u ys)(hx:a.eval x=.slice (some ⟨g,0,none⟩) 1 1)
  (hy:W.heap[g]?=some (.cells #[.int .i64 y] 3 (0,0)))(hl:xs.length≤1000000)(hb:base≤W.heap.size)
  (h:∀ v' W1,EB W1 base v' (xs++[y]) u ys→W.grownBy W1 v.ownBlock→wpList Tryz.prog ops Q rest (a.put o.dst v') W1) :
  wpList Tryz.prog ops Q (o::rest) a W:=by
 refine NU hgd s x ho base g y v xs hs hr.a hx hy hl hb fun v' W1 h1 h2 h3=>h v' W1 ⟨h1,hr.b.move fun k hk=>h2.block k (Ol hr.b k hk) (fun e=>hr.ap k e.symm hk),fun k hk e=>?_⟩ h2
 rcases h3 with h3 |h3
 ·exact hr.ap k (by rw[←h3];exact hk) e
 ·rw[h3]at hk;cases hk;exact absurd (Ol hr.b _ e) (Nat.lt_irrefl _)
end
end
end Go.Proofs.YtjjpiefgdggghaaGreatDoor

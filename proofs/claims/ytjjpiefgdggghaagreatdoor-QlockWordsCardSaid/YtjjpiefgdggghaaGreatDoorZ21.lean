/- Parts: Src, RefTextBox. -/
import Derived.Test.YtjjpiefgdggghaaGreatDoorZ05
import Derived.Test.YtjjpiefgdggghaaGreatDoorZ07
import Derived.Test.YtjjpiefgdggghaaGreatDoorZ02
import Derived.Test.YtjjpiefgdggghaaGreatDoorZ20
import Derived.Test.YtjjpiefgdggghaaGreatDoorZ09
import Derived.Deep.RegionHeld3
set_option linter.unusedVariables false
set_option linter.unusedSimpArgs false
set_option maxRecDepth 100000
set_option maxHeartbeats 40000000
namespace Go.Proofs.YtjjpiefgdggghaaGreatDoor
section
open Go.RowKit Go.Proofs.YtjjpiefgdggghaaGreatDoorW.PrintWords
theorem KS:(Tryz.prog.info? 126).map (fun i=>(i.zero,i.size,i.bytes))=some (some (.agg In.zero.cs),8,64):=by kernel_rfl
theorem I5:(Tryz.prog.info? 9).map (fun i=>(i.zero,i.size,i.bytes))=some (some (.string ⟨#[]⟩),1,16):=by kernel_rfl
def AP(l:List In):List Value:=(l.map fun i=>i.cs.toList).flatten
theorem Gd(l:List In):(AP l).length=l.length*8:=by
 induction l with
 |nil=>rfl
 |cons i l ih =>
  unfold AP at ih ⊢;rw[List.map_cons,List.flatten_cons,List.length_append,ih,List.length_cons];have:i.cs.toList.length=8:=rfl;omega
theorem Ei(l:List In)(i:In):AP (l++[i])=AP l++i.cs.toList:=by simp[AP]
def BN(W:World)(base:Nat)(v:Value)(xs:List In):Prop:=W.ownsRow base 126 8 v xs.length (AP xs)
def Dk(W:World)(base:Nat)(v:Value)(xs:List (List UInt8)):Prop:=W.ownsRow base 9 1 v xs.length (xs.map fun s=>Value.string ⟨s.toArray⟩)
theorem BN.nil(W:World)(base:Nat):BN W base (.slice none 0 0) []:=⟨rfl,.inl ⟨rfl,rfl⟩⟩
theorem Dk.nil(W:World)(base:Nat):Dk W base (.slice none 0 0) []:=⟨rfl,.inl ⟨rfl,rfl⟩⟩
section
variable {ops:Array Oper} {rest:List Oper} {o:Oper} {a:Act} {Q:Exit→Act→World→Prop} {W:World}
theorem OQ(hgd:o.guard=none)(s x:Operand)(ho:o.op=.call {callee:=.builtin .append,args:=#[s,x],argTypes:=#[108,108]})
  (base g:Nat)(y:List UInt8)(v:Value)(xs:List (List UInt8))(hs:a.eval s=v)(hr:Dk W base v xs)(hx:a.eval x=.slice (some ⟨g,0,none⟩) 1 1)
  (hy:W.heap[g]?=some (.cells #[.string ⟨y.toArray⟩] 9 (0,0)))(hl:xs.length≤1000000)(hb:base≤W.heap.size)
  (h:∀ v' W1,Dk W1 base v' (xs++[y])→W.grownBy W1 v.ownBlock→(v'.ownBlock=v.ownBlock∨v'.ownBlock=some W.heap.size)→wpList Tryz.prog ops Q rest (a.put o.dst v') W1) :
  wpList Tryz.prog ops Q (o::rest) a W:=by
 obtain⟨i9,hi,hz0,hz1,hz2⟩:=info_parts I5;refine wpList_append_own_at _ hgd s x 108 ho base 9 i9 (.string ⟨#[]⟩) 1 16 Tryz.underlying108 hi hz0 hz1 hz2 rfl (by decide) v xs.length _ hs hr ⟨g,0,none⟩ 1 1 [.string ⟨y.toArray⟩] hx rfl ?_ ?_ ?_ ?_ hb ?_
 ·intro j u hj;rw[add_plain];exact(Bc hy j).trans (by simpa using hj)
 ·simp[Value.oneCell']
 ·simp[maxLen];omega
 ·omega
 ·intro v' W1 h1 h2 _ h4;refine h v' W1 ?_ h2 h4;unfold Dk;rw[List.map_append,List.length_append];exact h1
end
structure Cr (W:World) (base gx bm:Nat) (v0 v1 v2:Value) (x:Src):Prop where
 s:W.heap[gx]?=some (.cells #[v0,v1,v2,.map (some bm)] 121 (0,0))
 r0:BN W base v0 x.l
 r1:Dk W base v1 x.names
 r2:B6 W base v2 x.rows
 m:DU W bm x.labels
 gb:base≤gx
 bb:base≤bm
abbrev RB(w W:World)(op d s t u a k q:Int):Prop:=Ai (W.heap[w.heap.size]?=some (.cells (In.cs ⟨op,d,s,t,u,a,k,q⟩) 114 (0,0))∧Below w.heap.size w W)∧W.cell? ⟨w.heap.size,0,none⟩=some (.int .i64 op)∧W.cell? ⟨w.heap.size,1,none⟩=some (.int .i64 d)∧W.cell? ⟨w.heap.size,2,none⟩=some (.int .i64 s)∧W.cell? ⟨w.heap.size,3,none⟩=some (.int .i64 t)∧W.cell? ⟨w.heap.size,4,none⟩=some (.int .i64 u)∧W.cell? ⟨w.heap.size,5,none⟩=some (.int .i64 a)∧W.cell? ⟨w.heap.size,6,none⟩=some (.int .u32 k)∧W.cell? ⟨w.heap.size,7,none⟩=some (.int .i64 q)
theorem Di{w W:World}{op d s t u a k q:Int}(h:W.heap[w.heap.size]?=some (.cells (In.cs ⟨op,d,s,t,u,a,k,q⟩) 114 (0,0))∧Below w.heap.size w W):RB w W op d s t u a k q :=
 ⟨⟨h⟩,(Bc h.1 0).trans rfl,(Bc h.1 1).trans rfl,(Bc h.1 2).trans rfl,(Bc h.1 3).trans rfl,(Bc h.1 4).trans rfl,(Bc h.1 5).trans rfl,(Bc h.1 6).trans rfl,(Bc h.1 7).trans rfl⟩
theorem AU(w:World)(op d s t u a k q:Int):RB w (w.alloc (.cells (In.cs ⟨op,d,s,t,u,a,k,q⟩) 114)).drew op d s t u a k q :=
 Di ⟨Be (Bv w (.cells (In.cs ⟨op,d,s,t,u,a,k,q⟩) 114)),Bd ((Below.refl w.heap.size w).alloc (Nl _) _)⟩
theorem Ad{w W W1:World}{op d s t u a k q:Int}(hb:Below W.heap.size W W1)(h:RB w W op d s t u a k q):RB w W1 op d s t u a k q:=Di ⟨Bk hb h.1.out.1,h.1.out.2.trans (hb.mono h.1.out.2.size)⟩
theorem Ci:(⟨#[32]⟩:ByteArray)=⟨[32].toArray⟩:=rfl
theorem Bx{op d s t u a k q:Int}(hf:In.fits ⟨op,d,s,t,u,a,k,q⟩) :
  Ai (∀ W,Calls Tryz.prog 49 #[.int .i64 k] W fun e w'=>e=.returned (.string ⟨(dec k).toArray⟩)∧Below W.heap.size W w')∧Ai (∀ W,Calls Tryz.prog 49 #[.int .i64 a] W fun e w'=>e=.returned (.string ⟨(dec a).toArray⟩)∧Below W.heap.size W w') ∧
  IntKind.i64.wrap k=k∧(¬9223372036854775807<1+(dec k).length)∧(¬9223372036854775807<1+(dec a).length) ∧
  Ai (0≤q→Ai (∀ W,Calls Tryz.prog 49 #[.int .i64 q] W fun e w'=>e=.returned (.string ⟨(dec q).toArray⟩)∧Below W.heap.size W w')∧¬9223372036854775807<1+(dec q).length) ∧
  (dec d).length≤10∧(dec s).length≤10∧(dec t).length≤10∧(dec u).length≤10∧(dec k).length≤10∧(dec a).length≤10∧(dec q).length≤10:=by
 have hk:0≤k∧k≤4294967295:=hf.k;have l7:∀ {x:Int},x≤7→(dec x).length≤10:=fun h=>AS (Int.le_trans h (by decide))
 have lk:=AS hf.k.2;have la:=l7 hf.a.2;have lq:=AS (Int.le_trans hf.q.2 (show(1073741824:Int)≤4294967295 by decide));dsimp only at lk la lq;exact⟨⟨fun W=>B4 hf.k.1 hf.k.2 W⟩,⟨fun W=>B4 hf.a.1 (Int.le_trans hf.a.2 (by decide)) W⟩,by rw[IntKind.wrap_i64];omega,by omega,by omega,
  ⟨fun hq=>⟨⟨fun W=>B4 hq (Int.le_trans hf.q.2 (by decide)) W⟩,by omega⟩⟩,l7 hf.d.2,l7 hf.s.2,l7 hf.t.2,l7 hf.u.2,lk,la,lq⟩
end
end Go.Proofs.YtjjpiefgdggghaaGreatDoor
